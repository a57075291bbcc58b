/- Contracts of functions that the laws reach, on abstract values, and what they need: no conditions but those that each theorem states. -/
import Derived.Calls
import Derived.Orders
import Derived.Below
import Derived.Laws.Append
import Derived.Laws.World
import Derived.Tactics
set_option linter.unusedVariables false
set_option linter.unusedSimpArgs false
set_option linter.defProp false
namespace Go.SL
open Go
theorem aI {a b : Prop} (x : a) (y : b) : a ∧ b := ⟨x, y⟩
inductive SV where
  | any
  | v (x : Value)
  | ptr (b e k : Nat)
  | slc (b e n : Nat)
  | asl (b e k n : Nat)
  | agg (l : List SV)
  | tup (l : List SV)
  | ifc (t : TypeId) (x : SV)
  | fn (f : Fn) (fi ca : List SV)
  | rsl (s : Nat) (rows : List (List SV))
  | rp (row : List SV) (k : Nat)
structure Pl where
  blk : Nat
  off : Nat
  size : Nat
  cap : Nat
structure Bt where
  b : Nat → Option Pl
  m : Nat → Nat → Option Value
instance : CoeFun Bt fun _ => Nat → Option Pl := ⟨Bt.b⟩
def Bt.ren (β : Bt) (ρ : Nat → Nat) : Bt := ⟨fun i => β (ρ i), β.m⟩
mutual
def RelV (β : Bt) : SV → Value → Prop
  | .any, _ => True
  | .v x, y => y = x
  | .ptr b e k, y => ∃ p, β b = some p ∧ y = .pointer (some ⟨p.blk, p.off + e * p.size + k, none⟩)
  | .slc b e n, y => ∃ p a c, β b = some p ∧ y = .slice a n c ∧ n ≤ c ∧ (c = 0 ∨ (a = some ⟨p.blk, p.off + e * p.size, none⟩ ∧ e + c ≤ p.cap))
  | .asl b e k n, y => ∃ p c, β b = some p ∧ y = .slice (some ⟨p.blk, p.off + e * p.size + k, none⟩) n c ∧ n ≤ c
  | .agg l, y => ∃ cs, y = .agg cs ∧ RelL β l cs.toList
  | .tup l, y => ∃ cs, y = .tuple cs ∧ RelT β l cs.toList
  | .ifc t x, y => ∃ u, y = .iface t u ∧ RelV β x u
  | .fn f fi ca, y => ∃ a b, y = .func f a b ∧ RelL β fi a.toList ∧ RelL β ca b.toList
  | .rsl s rows, y => ∃ blk off a c, y = .slice a rows.length c ∧ rows.length ≤ c ∧ (c = 0 ∨ a = some ⟨blk, off, none⟩) ∧ RelR β blk s off rows
  | .rp row k, y => ∃ blk off, y = .pointer (some ⟨blk, off + k, none⟩) ∧ RelC β blk off row
def RelL (β : Bt) : List SV → List Value → Prop
  | [], ys => ys = []
  | x :: xs, ys => ∃ y r, ys = y :: r ∧ RelV β x y ∧ RelL β xs r
def RelT (β : Bt) : List SV → List Value → Prop
  | [], _ => True
  | x :: xs, ys => (x = .any ∨ ∃ y r, ys = y :: r ∧ RelV β x y) ∧ RelT β xs ys.tail
def RelC (β : Bt) (blk : Nat) : Nat → List SV → Prop
  | _, [] => True
  | off, x :: xs => (∃ v, β.m blk off = some v ∧ RelV β x v) ∧ RelC β blk (off + 1) xs
def RelR (β : Bt) (blk s : Nat) : Nat → List (List SV) → Prop
  | _, [] => True
  | off, r :: rs => r.length = s ∧ RelC β blk off r ∧ RelR β blk s (off + s) rs
end
mutual
def SV.ren (ρ : Nat → Nat) : SV → SV
  | .any => .any
  | .v x => .v x
  | .ptr b e k => .ptr (ρ b) e k
  | .slc b e n => .slc (ρ b) e n
  | .asl b e k n => .asl (ρ b) e k n
  | .agg l => .agg (SV.renL ρ l)
  | .tup l => .tup (SV.renL ρ l)
  | .ifc t x => .ifc t (x.ren ρ)
  | .fn f fi ca => .fn f (SV.renL ρ fi) (SV.renL ρ ca)
  | .rsl s rows => .rsl s (SV.renR ρ rows)
  | .rp row k => .rp (SV.renL ρ row) k
def SV.renL (ρ : Nat → Nat) : List SV → List SV
  | [] => []
  | x :: xs => x.ren ρ :: SV.renL ρ xs
def SV.renR (ρ : Nat → Nat) : List (List SV) → List (List SV)
  | [] => []
  | r :: rs => SV.renL ρ r :: SV.renR ρ rs
end
theorem renL_length (ρ : Nat → Nat) : ∀ (l : List SV), (SV.renL ρ l).length = l.length
  | [] => rfl
  | x :: l => by simp [SV.renL, renL_length ρ l]
theorem renR_length (ρ : Nat → Nat) : ∀ (l : List (List SV)), (SV.renR ρ l).length = l.length
  | [] => rfl
  | x :: l => by simp [SV.renR, renR_length ρ l]
structure Bt.Rn (ρ : Nat → Nat) (β β' : Bt) : Prop where
  b : ∀ i p, β i = some p → β' (ρ i) = some p
  m : ∀ b o v, β.m b o = some v → β'.m b o = some v
mutual
theorem RelV.ren {β β' : Bt} {ρ : Nat → Nat} (h : Bt.Rn ρ β β') : ∀ (x : SV) (y : Value), RelV β x y → RelV β' (x.ren ρ) y
  | .any, _, _ => trivial
  | .v _, _, r => r
  | .ptr _ _ _, _, ⟨p, hp, e⟩ => ⟨p, h.b _ _ hp, e⟩
  | .slc _ _ _, _, ⟨p, a, c, hp, r⟩ => ⟨p, a, c, h.b _ _ hp, r⟩
  | .asl _ _ _ _, _, ⟨p, c, hp, r⟩ => ⟨p, c, h.b _ _ hp, r⟩
  | .agg l, _, ⟨cs, e, r⟩ => ⟨cs, e, RelL.ren h l _ r⟩
  | .tup l, _, ⟨cs, e, r⟩ => ⟨cs, e, RelT.ren h l _ r⟩
  | .ifc _ x, _, ⟨u, e, r⟩ => ⟨u, e, RelV.ren h x _ r⟩
  | .fn _ fi ca, _, ⟨a, b, e, r, s⟩ => ⟨a, b, e, RelL.ren h fi _ r, RelL.ren h ca _ s⟩
  | .rsl s rows, _, ⟨blk, off, a, c, e, hl, hc, hr⟩ => ⟨blk, off, a, c, by rw [renR_length]; exact e, by rw [renR_length]; exact hl, hc, RelR.ren h blk s off rows hr⟩
  | .rp row k, _, ⟨blk, off, e, hr⟩ => ⟨blk, off, e, RelC.ren h blk off row hr⟩
theorem RelL.ren {β β' : Bt} {ρ : Nat → Nat} (h : Bt.Rn ρ β β') : ∀ (x : List SV) (y : List Value), RelL β x y → RelL β' (SV.renL ρ x) y
  | [], _, r => r
  | x :: xs, _, ⟨y, r, e, hx, hr⟩ => ⟨y, r, e, RelV.ren h x y hx, RelL.ren h xs r hr⟩
theorem RelT.ren {β β' : Bt} {ρ : Nat → Nat} (h : Bt.Rn ρ β β') : ∀ (x : List SV) (y : List Value), RelT β x y → RelT β' (SV.renL ρ x) y
  | [], _, _ => trivial
  | x :: xs, ys, ⟨hx, hr⟩ => ⟨by
      rcases hx with rfl | ⟨y, r, e, hx⟩
      · exact .inl (by simp [SV.ren])
      · exact .inr ⟨y, r, e, RelV.ren h x y hx⟩, RelT.ren h xs ys.tail hr⟩
theorem RelC.ren {β β' : Bt} {ρ : Nat → Nat} (h : Bt.Rn ρ β β') (blk : Nat) : ∀ (off : Nat) (x : List SV), RelC β blk off x → RelC β' blk off (SV.renL ρ x)
  | _, [], _ => trivial
  | off, x :: xs, ⟨⟨v, hv, hx⟩, hr⟩ => ⟨⟨v, h.m _ _ _ hv, RelV.ren h x v hx⟩, RelC.ren h blk (off + 1) xs hr⟩
theorem RelR.ren {β β' : Bt} {ρ : Nat → Nat} (h : Bt.Rn ρ β β') (blk s : Nat) : ∀ (off : Nat) (x : List (List SV)), RelR β blk s off x → RelR β' blk s off (SV.renR ρ x)
  | _, [], _ => trivial
  | off, r :: rs, ⟨hl, hc, hr⟩ => ⟨by rw [renL_length]; exact hl, RelC.ren h blk off r hc, RelR.ren h blk s (off + s) rs hr⟩
end
theorem RelT.get {β : Bt} : ∀ {x : List SV} {y : List Value}, RelT β x y → ∀ (i : Nat) (u : SV), x[i]? = some u → u = .any ∨ ∃ z, y[i]? = some z ∧ RelV β u z
  | [], _, _, i, u, h => by simp at h
  | x :: xs, ys, ⟨hx, hr⟩, i, u, h => by
    cases i with
    | zero =>
      simp at h; subst h
      rcases hx with h | ⟨y, r, e, hx⟩
      · exact .inl h
      · subst e; exact .inr ⟨y, rfl, hx⟩
    | succ i =>
      simp at h
      rcases hr.get i u h with h | ⟨z, hz, hr'⟩
      · exact .inl h
      · exact .inr ⟨z, by cases ys with
          | nil => simp at hz
          | cons a b => simpa using hz, hr'⟩
mutual
theorem SV.ren_id : ∀ (x : SV), x.ren (fun i => i) = x
  | .any => rfl
  | .v _ => rfl
  | .ptr _ _ _ => rfl
  | .slc _ _ _ => rfl
  | .asl _ _ _ _ => rfl
  | .agg l => by simp only [SV.ren, SV.renL_id l]
  | .tup l => by simp only [SV.ren, SV.renL_id l]
  | .ifc _ x => by simp only [SV.ren, SV.ren_id x]
  | .fn _ fi ca => by simp only [SV.ren, SV.renL_id fi, SV.renL_id ca]
  | .rsl s rows => by simp only [SV.ren, SV.renR_id rows]
  | .rp row k => by simp only [SV.ren, SV.renL_id row]
theorem SV.renL_id : ∀ (l : List SV), SV.renL (fun i => i) l = l
  | [] => rfl
  | x :: xs => by simp only [SV.renL, SV.ren_id x, SV.renL_id xs]
theorem SV.renR_id : ∀ (l : List (List SV)), SV.renR (fun i => i) l = l
  | [] => rfl
  | x :: xs => by simp only [SV.renR, SV.renL_id x, SV.renR_id xs]
end
def Bt.le (β β' : Bt) : Prop := Bt.Rn (fun i => i) β β'
theorem Bt.le.refl (β : Bt) : β.le β := ⟨fun _ _ h => h, fun _ _ _ h => h⟩
theorem Bt.le.trans {a b c : Bt} (h : a.le b) (k : b.le c) : a.le c := ⟨fun i p hp => k.b i p (h.b i p hp), fun x o v hv => k.m x o v (h.m x o v hv)⟩
theorem RelV.mono {β β' : Bt} (h : β.le β') {x : SV} {y : Value} (r : RelV β x y) : RelV β' x y := by
  have := RelV.ren (ρ := fun i => i) h x y r
  rwa [SV.ren_id] at this
theorem RelL.mono {β β' : Bt} (h : β.le β') {x : List SV} {y : List Value} (r : RelL β x y) : RelL β' x y := by
  have := RelL.ren (ρ := fun i => i) h x y r
  rwa [SV.renL_id] at this
theorem RelL.length {β : Bt} : ∀ {x : List SV} {y : List Value}, RelL β x y → y.length = x.length
  | [], _, r => by cases r; rfl
  | _ :: _, _, ⟨_, _, e, _, hr⟩ => by subst e; simp [RelL.length hr]
theorem RelL.get {β : Bt} : ∀ {x : List SV} {y : List Value}, RelL β x y → ∀ (i : Nat) (u : SV), x[i]? = some u → ∃ z, y[i]? = some z ∧ RelV β u z
  | [], _, _, i, u, h => by simp at h
  | x :: xs, _, ⟨y, r, e, hx, hr⟩, i, u, h => by
    subst e
    cases i with
    | zero => simp at h; subst h; exact ⟨y, rfl, hx⟩
    | succ i => simp at h; obtain ⟨z, hz, hr'⟩ := hr.get i u h; exact ⟨z, by simpa using hz, hr'⟩
theorem RelL.of_get {β : Bt} : ∀ (x : List SV) (y : List Value), y.length = x.length → (∀ (i : Nat) (u : SV) (z : Value), x[i]? = some u → y[i]? = some z → RelV β u z) → RelL β x y
  | [], y, h, _ => by simpa [RelL] using h
  | x :: xs, [], h, _ => by simp at h
  | x :: xs, y :: ys, h, k => ⟨y, ys, rfl, k 0 x y rfl rfl, RelL.of_get xs ys (by simpa using h) fun i u z hu hz => k (i + 1) u z (by simpa using hu) (by simpa using hz)⟩
theorem RelL.append {β : Bt} : ∀ {a : List SV} {c : List Value} {b : List SV} {d : List Value}, RelL β a c → RelL β b d → RelL β (a ++ b) (c ++ d)
  | [], _, _, _, r, s => by cases r; simpa using s
  | _ :: _, _, _, _, ⟨y, r, e, hx, hr⟩, s => by subst e; exact ⟨y, r ++ _, rfl, hx, hr.append s⟩
theorem RelL.take {β : Bt} : ∀ {a : List SV} {c : List Value} (n : Nat), RelL β a c → RelL β (a.take n) (c.take n)
  | [], _, n, r => by cases r; simp [RelL]
  | _ :: _, _, 0, _ => by simp [RelL]
  | _ :: _, _, n + 1, ⟨y, r, e, hx, hr⟩ => by subst e; exact ⟨y, _, rfl, hx, hr.take n⟩
theorem RelL.drop {β : Bt} : ∀ {a : List SV} {c : List Value} (n : Nat), RelL β a c → RelL β (a.drop n) (c.drop n)
  | [], _, n, r => by cases r; simp [RelL]
  | _ :: _, _, 0, r => r
  | _ :: _, _, n + 1, ⟨y, r, e, _, hr⟩ => by subst e; exact hr.drop n
theorem RelL.vals {β : Bt} : ∀ (l : List Value), RelL β (l.map SV.v) l
  | [] => rfl
  | _ :: l => ⟨_, _, rfl, rfl, RelL.vals l⟩
structure SB where
  size : Nat
  n : Nat
  own : Bool
  ty : TypeId
  el : Nat → List SV
inductive SK where
  | row (B : SB)
  | it (s : ByteArray) (pos : Nat)
def SK.own : SK → Bool
  | .row B => B.own
  | .it _ _ => true
def RelB (w : World) (β : Bt) (p : Pl) (B : SB) : Prop :=
  p.size = B.size ∧ B.n ≤ p.cap ∧
  (∀ e, e < B.n → (B.el e).length = B.size ∧ ∀ j x, (B.el e)[j]? = some x → ∃ y, w.cell? ⟨p.blk, p.off + e * p.size + j, none⟩ = some y ∧ y.oneCell' = true ∧ RelV β x y) ∧
  (B.own = true → 0 < p.cap → ∃ cs, w.heap[p.blk]? = some (.cells cs B.ty (0, 0)) ∧ p.off = 0 ∧ cs.size = p.cap * p.size ∧ p.cap ≤ maxLen)
def RelK (w : World) (β : Bt) (p : Pl) : SK → Prop
  | .row B => RelB w β p B
  | .it s pos => w.heap[p.blk]? = some (.stringIter s pos) ∧ p.off = 0 ∧ p.size = 1 ∧ p.cap = 1
theorem RelB.mono {w : World} {β β' : Bt} {p : Pl} {B : SB} (h : β.le β') (r : RelB w β p B) : RelB w β' p B :=
  ⟨r.1, r.2.1, fun e he => ⟨(r.2.2.1 e he).1, fun j x hx => let ⟨y, h1, h2, h3⟩ := (r.2.2.1 e he).2 j x hx; ⟨y, h1, h2, h3.mono h⟩⟩, r.2.2.2⟩
theorem RelK.mono {w : World} {β β' : Bt} {p : Pl} {K : SK} (h : β.le β') (r : RelK w β p K) : RelK w β' p K := by
  cases K with
  | row B => exact RelB.mono h r
  | it s pos => exact r
theorem cell_congr {w w' : World} {a : Addr} (h : w'.heap[a.block]? = w.heap[a.block]?) : w'.cell? a = w.cell? a := by unfold World.cell?; rw [h]
theorem RelB.congr {w w' : World} {β : Bt} {p : Pl} {B : SB} (h : w'.heap[p.blk]? = w.heap[p.blk]?) (r : RelB w β p B) : RelB w' β p B := by
  obtain ⟨r1, r2, r3, r4⟩ := r
  refine ⟨r1, r2, fun e he => ⟨(r3 e he).1, fun j x hx => ?_⟩, fun ho => ?_⟩
  · obtain ⟨y, h1, h2⟩ := (r3 e he).2 j x hx
    exact ⟨y, by rw [cell_congr h]; exact h1, h2⟩
  · intro hp
    obtain ⟨cs, o1, o2⟩ := r4 ho hp
    exact ⟨cs, by rw [h]; exact o1, o2⟩
theorem RelK.congr {w w' : World} {β : Bt} {p : Pl} {K : SK} (h : w'.heap[p.blk]? = w.heap[p.blk]?) (r : RelK w β p K) : RelK w' β p K := by
  cases K with
  | row B => exact RelB.congr h r
  | it s pos => exact ⟨by rw [h]; exact r.1, r.2⟩
structure RelH (w : World) (β : Bt) (L : List (Option SK)) : Prop where
  blk : ∀ i K, L[i]? = some (some K) → ∃ p, β i = some p ∧ RelK w β p K
  lt : ∀ i K p, L[i]? = some (some K) → β i = some p → 0 < p.cap → p.blk < w.heap.size
  sep : ∀ i j K K' p q, i ≠ j → L[i]? = some (some K) → L[j]? = some (some K') → β i = some p → β j = some q → K.own = true → 0 < p.cap → 0 < q.cap → p.blk ≠ q.blk
  out : ∀ i, L.length ≤ i → β i = none
  ro : ∀ b o v, β.m b o = some v → w.cell? ⟨b, o, none⟩ = some v ∧ v.oneCell' = true ∧ b < w.heap.size
  rosep : ∀ i K p b o v, L[i]? = some (some K) → K.own = true → β i = some p → 0 < p.cap → β.m b o = some v → p.blk ≠ b
structure Keep (w : World) (β : Bt) (L : List (Option SK)) (w' : World) (β' : Bt) (L' : List (Option SK)) : Prop where
  os : w'.os = w.os
  tape : w'.tape = w.tape
  output : w'.output = w.output
  size : w.heap.size ≤ w'.heap.size
  old : ∀ g, g < w.heap.size → (∀ i K p, L[i]? = some (some K) → K.own = true → β i = some p → 0 < p.cap → p.blk ≠ g) → w'.heap[g]? = w.heap[g]?
  new : ∀ i K p, L'[i]? = some (some K) → β' i = some p → 0 < p.cap → w.heap.size ≤ p.blk ∨ ∃ j K' q, L[j]? = some (some K') ∧ β j = some q ∧ 0 < q.cap ∧ q.blk = p.blk ∧ (K.own = true → K'.own = true) ∧ (j = i ∨ K'.own = true)
  mle : ∀ b o v, β.m b o = some v → β'.m b o = some v
  mem : ∀ b o v, β'.m b o = some v → β.m b o = some v ∨ w.heap.size ≤ b ∨ ∃ i K p, L[i]? = some (some K) ∧ K.own = true ∧ β i = some p ∧ 0 < p.cap ∧ p.blk = b
theorem Keep.refl (w : World) (β : Bt) (L : List (Option SK)) : Keep w β L w β L :=
  ⟨rfl, rfl, rfl, Nat.le_refl _, fun _ _ _ => rfl, fun i K p h hp hc => .inr ⟨i, K, p, h, hp, hc, rfl, id, .inl rfl⟩, fun _ _ _ h => h, fun _ _ _ h => .inl h⟩
theorem Keep.trans {w w1 w2 : World} {β β1 β2 : Bt} {L L1 L2 : List (Option SK)} (h : Keep w β L w1 β1 L1) (k : Keep w1 β1 L1 w2 β2 L2) : Keep w β L w2 β2 L2 := by
  refine ⟨k.os.trans h.os, k.tape.trans h.tape, k.output.trans h.output, Nat.le_trans h.size k.size, fun g hg hn => ?_, fun i K p hi hp hc => ?_, fun b o v hv => k.mle b o v (h.mle b o v hv), fun b o v hv => ?_⟩
  · rw [← h.old g hg hn]
    refine k.old g (Nat.lt_of_lt_of_le hg h.size) fun i K p hi ho hp hc e => ?_
    rcases h.new i K p hi hp hc with h1 | ⟨j, K', q, hj, hq, hc', e', ow, _⟩
    · omega
    · exact hn j K' q hj (ow ho) hq hc' (e'.trans e)
  · rcases k.new i K p hi hp hc with h1 | ⟨j, K', q, hj, hq, hc', e', ow, hji⟩
    · exact .inl (Nat.le_trans h.size h1)
    · rcases h.new j K' q hj hq hc' with h2 | ⟨j2, K2, q2, hj2, hq2, hc2, e2, ow2, hjj⟩
      · exact .inl (by omega)
      · refine .inr ⟨j2, K2, q2, hj2, hq2, hc2, e2.trans e', fun o => ow2 (ow o), ?_⟩
        rcases hji with rfl | h3
        · exact hjj
        · exact .inr (ow2 h3)
  · rcases k.mem b o v hv with h1 | h1 | ⟨i, K, p, hi, ho, hp, hc, e⟩
    · exact h.mem b o v h1
    · exact .inr (.inl (Nat.le_trans h.size h1))
    · rcases h.new i K p hi hp hc with h2 | ⟨j, K', q, hj, hq, hc', e', ow, _⟩
      · exact .inr (.inl (by omega))
      · exact .inr (.inr ⟨j, K', q, hj, ow ho, hq, hc', e'.trans e⟩)
theorem Keep.same {w w' : World} {β : Bt} {L : List (Option SK)} (h : w'.heap = w.heap) (ho : w'.os = w.os) (ht : w'.tape = w.tape) (hu : w'.output = w.output) : Keep w β L w' β L :=
  ⟨ho, ht, hu, by rw [h]; exact Nat.le_refl _, fun g _ _ => by rw [h], fun i K p hi hp hc => .inr ⟨i, K, p, hi, hp, hc, rfl, id, .inl rfl⟩, fun _ _ _ h => h, fun _ _ _ h => .inl h⟩
theorem RelH.same {w w' : World} {β : Bt} {L : List (Option SK)} (h : w'.heap = w.heap) (r : RelH w β L) : RelH w' β L :=
  ⟨fun i K hi => let ⟨p, hp, rk⟩ := r.blk i K hi; ⟨p, hp, rk.congr (by rw [h])⟩, fun i K p hi hp ho => by rw [h]; exact r.lt i K p hi hp ho, r.sep, r.out, fun b o v hv => by rw [cell_congr (w := w) (by rw [h]), h]; exact r.ro b o v hv, r.rosep⟩
structure Chg where
  set : Option (Nat × Option SK) := none
  new : Option SK := none
def Chg.apply (c : Chg) (L : List (Option SK)) : List (Option SK) :=
  (match c.set with
   | some (b, K) => L.set b K
   | none => L) ++ (match c.new with
   | some K => [some K]
   | none => [])
structure Out (w : World) (β : Bt) (N : Nat) (get : Nat → Option SK) (c : Chg) (w' : World) (β' : Bt) : Prop where
  os : w'.os = w.os
  tape : w'.tape = w.tape
  output : w'.output = w.output
  m : β'.m = β.m
  size : w.heap.size ≤ w'.heap.size
  le : β.le β'
  out : ∀ i, β i = none → (i = N → c.new = none) → β' i = none
  old : ∀ g, g < w.heap.size → (∀ b K K0 q, c.set = some (b, K) → get b = some K0 → K0.own = true → β b = some q → 0 < q.cap → q.blk ≠ g) → w'.heap[g]? = w.heap[g]?
  set : ∀ b K, c.set = some (b, K) → ∃ K0, get b = some K0 ∧ (∀ K1, K = some K1 → ∀ q, β b = some q → RelK w' β' q K1) ∧ (∀ K1, K = some K1 → K0.own = true ∨ K1.own = false)
  new : ∀ K, c.new = some K → ∃ p, β' N = some p ∧ RelK w' β' p K ∧ (0 < p.cap → p.blk < w'.heap.size) ∧
    (0 < p.cap → w.heap.size ≤ p.blk ∨ ∃ b K0 q, c.set = some (b, none) ∧ get b = some K0 ∧ K0.own = true ∧ β b = some q ∧ 0 < q.cap ∧ q.blk = p.blk)
theorem single_get {α : Type} {x y : α} {k : Nat} (h : [x][k]? = some y) : k = 0 ∧ x = y := by
  cases k with
  | zero => simp at h; exact ⟨rfl, h⟩
  | succ k => simp at h
def getL (L : List (Option SK)) (i : Nat) : Option SK := (L[i]?).getD none
theorem getL_some {L : List (Option SK)} {i : Nat} {K : SK} : getL L i = some K ↔ L[i]? = some (some K) := by
  unfold getL
  cases h : L[i]? with
  | none => simp
  | some x => simp
theorem Out.all {w w' : World} {β β' : Bt} {L : List (Option SK)} {c : Chg} (h : Out w β L.length (getL L) c w' β') (r : RelH w β L) : RelH w' β' (c.apply L) ∧ Keep w β L w' β' (c.apply L) := by
  have from_ : ∀ i K p, (c.apply L)[i]? = some (some K) → β' i = some p →
      (i = L.length ∧ c.new = some K) ∨ (∃ K', c.set = some (i, K') ∧ K' = some K ∧ β i = some p) ∨ (L[i]? = some (some K) ∧ β i = some p ∧ ∀ K', c.set ≠ some (i, K')) := by
    intro i K p hi hp
    have hβ : i < L.length → β i = some p := by
      intro hlt
      cases hb : β i with
      | some q => have := h.le.b i q hb; rw [this] at hp; exact hp
      | none => rw [h.out i hb (by omega)] at hp; cases hp
    unfold Chg.apply at hi
    cases hs : c.set with
    | none =>
      rw [hs] at hi
      rcases Nat.lt_or_ge i L.length with hlt | hge
      · simp only [] at hi
        rw [List.getElem?_append_left hlt] at hi
        exact .inr (.inr ⟨hi, hβ hlt, fun _ e => by simp at e⟩)
      · simp only [] at hi
        rw [List.getElem?_append_right hge] at hi
        cases hn : c.new with
        | none => simp [hn] at hi
        | some K2 =>
          rw [hn] at hi
          obtain ⟨h0, h1⟩ := single_get hi
          exact .inl ⟨by omega, h1⟩
    | some bk =>
      obtain ⟨b, K'⟩ := bk
      rw [hs] at hi
      simp only [] at hi
      rcases Nat.lt_or_ge i L.length with hlt | hge
      · rw [List.getElem?_append_left (by simpa using hlt)] at hi
        by_cases hb : b = i
        · subst hb
          rw [List.getElem?_set_self hlt] at hi
          exact .inr (.inl ⟨K', rfl, by simpa using hi, hβ hlt⟩)
        · rw [List.getElem?_set_ne hb] at hi
          exact .inr (.inr ⟨hi, hβ hlt, fun _ e => hb (by simp at e; exact e.1)⟩)
      · rw [List.getElem?_append_right (by simpa using hge)] at hi
        cases hn : c.new with
        | none => simp [hn] at hi
        | some K2 =>
          rw [hn] at hi
          simp only [List.length_set] at hi
          obtain ⟨h0, h1⟩ := single_get hi
          exact .inl ⟨by omega, h1⟩
  have kept : ∀ i K p, L[i]? = some (some K) → β i = some p → 0 < p.cap → (∀ K', c.set ≠ some (i, K')) → w'.heap[p.blk]? = w.heap[p.blk]? := by
    intro i K p hi hp hc hn
    refine h.old _ (r.lt i K p hi hp hc) fun b K' K0 q hs hg ho hq hqc e => ?_
    have hbi : b ≠ i := fun e => hn K' (e ▸ hs)
    exact r.sep b i K0 K q p hbi (getL_some.1 hg) hi hq hp ho hqc hc e
  have relk0 : ∀ p K, p.cap = 0 → RelK w β p K → RelK w' β' p K := by
    intro p K hc rk
    cases K with
    | row B =>
      obtain ⟨r1, r2, r3, r4⟩ := rk
      exact ⟨r1, r2, fun e he => by omega, fun _ h0 => by omega⟩
    | it s pos => obtain ⟨_, _, _, h1⟩ := rk; omega
  constructor
  · refine ⟨fun i K hi => ?_, fun i K p hi hp hc => ?_, fun i j K K' p q hij hi hj hp hq ho hc hc' => ?_, fun i hi => ?_, fun b o v hv => ?_, fun i K p b o v hi ho hp hc hv e => ?_⟩
    ·
      have hex : ∃ p, β' i = some p := by
        unfold Chg.apply at hi
        rcases Nat.lt_or_ge i L.length with hlt | hge
        · cases hs : c.set with
          | none =>
            rw [hs] at hi
            simp only [] at hi
            rw [List.getElem?_append_left hlt] at hi
            obtain ⟨p, hp, _⟩ := r.blk i K hi
            exact ⟨p, h.le.b i p hp⟩
          | some bk =>
            obtain ⟨b, K'⟩ := bk
            rw [hs] at hi
            simp only [] at hi
            rw [List.getElem?_append_left (by simpa using hlt)] at hi
            by_cases hb : b = i
            · subst hb
              obtain ⟨K0, hg, _⟩ := h.set b K' hs
              obtain ⟨p, hp, _⟩ := r.blk b K0 (getL_some.1 hg)
              exact ⟨p, h.le.b b p hp⟩
            · rw [List.getElem?_set_ne hb] at hi
              obtain ⟨p, hp, _⟩ := r.blk i K hi
              exact ⟨p, h.le.b i p hp⟩
        · have hl : (match c.set with | some (b, K) => L.set b K | none => L).length = L.length := by cases c.set <;> simp
          rw [List.getElem?_append_right (by rw [hl]; exact hge), hl] at hi
          cases hn : c.new with
          | none => simp [hn] at hi
          | some K2 =>
            rw [hn] at hi
            obtain ⟨h0, _⟩ := single_get hi
            obtain ⟨p, hp, _⟩ := h.new K2 hn
            exact ⟨p, by rw [show i = L.length by omega]; exact hp⟩
      obtain ⟨p, hp⟩ := hex
      refine ⟨p, hp, ?_⟩
      rcases from_ i K p hi hp with ⟨rfl, hn⟩ | ⟨K', hs, rfl, hb⟩ | ⟨hl, hb, hn⟩
      · obtain ⟨p', hp', rk, _⟩ := h.new K hn
        rw [hp] at hp'
        cases hp'
        exact rk
      · obtain ⟨_, _, h2, _⟩ := h.set i _ hs
        exact h2 K rfl p hb
      · obtain ⟨p', hp', rk⟩ := r.blk i K hl
        rw [hb] at hp'
        cases hp'
        rcases Nat.eq_zero_or_pos p.cap with hc | hc
        · exact relk0 p K hc rk
        · exact (rk.mono h.le).congr (kept i K p hl hb hc hn)
    ·
      rcases from_ i K p hi hp with ⟨rfl, hn⟩ | ⟨K', hs, rfl, hb⟩ | ⟨hl, hb, hn⟩
      · obtain ⟨p', hp', _, hlt, _⟩ := h.new K hn
        rw [hp] at hp'
        cases hp'
        exact hlt hc
      · obtain ⟨K0, hg, _⟩ := h.set i _ hs
        exact Nat.lt_of_lt_of_le (r.lt i K0 p (getL_some.1 hg) hb hc) h.size
      · exact Nat.lt_of_lt_of_le (r.lt i K p hl hb hc) h.size
    ·
      have was : ∀ i K p, (c.apply L)[i]? = some (some K) → β' i = some p → (i = L.length ∧ c.new = some K) ∨ (∃ K0, L[i]? = some (some K0) ∧ β i = some p ∧ (K.own = true → K0.own = true) ∧ ∀ K1, c.set ≠ some (i, K1) ∨ K1 = some K) := by
        intro i K p hi hp
        rcases from_ i K p hi hp with ⟨rfl, hn⟩ | ⟨K', hs, rfl, hb⟩ | ⟨hl, hb, hn⟩
        · exact .inl ⟨rfl, hn⟩
        · obtain ⟨K0, hg, _, ow⟩ := h.set i _ hs
          refine .inr ⟨K0, getL_some.1 hg, hb, fun o => ?_, fun K1 => ?_⟩
          · rcases ow K rfl with h1 | h1
            · exact h1
            · rw [o] at h1; cases h1
          · by_cases e : c.set = some (i, K1)
            · rw [hs] at e; simp at e; exact .inr e.symm
            · exact .inl e
        · exact .inr ⟨K, hl, hb, id, fun K1 => .inl (hn K1)⟩
      have other : ∀ i j K K' p q, (i = L.length ∧ c.new = some K) → (∃ K0, L[j]? = some (some K0) ∧ β j = some q ∧ (K'.own = true → K0.own = true) ∧ ∀ K1, c.set ≠ some (j, K1) ∨ K1 = some K') → β' i = some p → 0 < p.cap → 0 < q.cap → p.blk ≠ q.blk := by
        rintro i j K K' p q ⟨rfl, hn⟩ ⟨K0, hl, hb, ow, hs⟩ hp hc hc' e
        obtain ⟨p', hp', _, _, hw⟩ := h.new K hn
        rw [hp] at hp'
        cases hp'
        have hlt := r.lt j K0 q hl hb hc'
        rcases hw hc with h1 | ⟨b, Kb, qb, hs', hg, hob, hqb, hcb, eb⟩
        · omega
        · by_cases hbj : b = j
          · subst hbj
            rcases hs none with h2 | h2
            · exact h2 hs'
            · cases h2
          · exact r.sep b j Kb K0 qb q hbj (getL_some.1 hg) hl hqb hb hob hcb hc' (eb.trans e)
      rcases was i K p hi hp with hi' | hi'
      · rcases was j K' q hj hq with hj' | hj'
        · exact absurd (hi'.1.trans hj'.1.symm) hij
        · exact other i j K K' p q hi' hj' hp hc hc'
      · rcases was j K' q hj hq with hj' | hj'
        · exact fun e => other j i K' K q p hj' hi' hq hc' hc e.symm
        · obtain ⟨K0, hl, hb, ow, _⟩ := hi'
          obtain ⟨K0', hl', hb', _, _⟩ := hj'
          exact r.sep i j K0 K0' p q hij hl hl' hb hb' (ow ho) hc hc'
    ·
      have hl : L.length ≤ i := by
        unfold Chg.apply at hi
        have : (match c.set with | some (b, K) => L.set b K | none => L).length = L.length := by cases c.set <;> simp
        simp only [List.length_append, this] at hi
        omega
      refine h.out i (r.out i hl) fun e => ?_
      cases hn : c.new with
      | none => rfl
      | some K =>
        exfalso
        unfold Chg.apply at hi
        have : (match c.set with | some (b, K) => L.set b K | none => L).length = L.length := by cases c.set <;> simp
        simp only [List.length_append, this, hn, List.length_cons, List.length_nil] at hi
        omega
    ·
      rw [h.m] at hv
      obtain ⟨h1, h2, h3⟩ := r.ro b o v hv
      refine ⟨?_, h2, Nat.lt_of_lt_of_le h3 h.size⟩
      rw [cell_congr (h.old b h3 fun b' K' K0 q hs hg ho hq hqc => r.rosep b' K0 q b o v (getL_some.1 hg) ho hq hqc hv)]
      exact h1
    ·
      rw [h.m] at hv
      obtain ⟨h1, h2, h3⟩ := r.ro b o v hv
      rcases from_ i K p hi hp with ⟨rfl, hn⟩ | ⟨K', hs, rfl, hb⟩ | ⟨hl, hb, hn⟩
      · obtain ⟨p', hp', _, _, hw⟩ := h.new K hn
        rw [hp] at hp'
        cases hp'
        rcases hw hc with h4 | ⟨b', Kb, qb, _, hg, hob, hqb, hcb, eb⟩
        · omega
        · exact r.rosep b' Kb qb b o v (getL_some.1 hg) hob hqb hcb hv (eb.trans e)
      · obtain ⟨K0, hg, _, ow⟩ := h.set i _ hs
        rcases ow K rfl with h4 | h4
        · exact r.rosep i K0 p b o v (getL_some.1 hg) h4 hb hc hv e
        · rw [ho] at h4; cases h4
      · exact r.rosep i K p b o v hl ho hb hc hv e
  · refine ⟨h.os, h.tape, h.output, h.size, fun g hg hn => h.old g hg fun b K K0 q hs hgt ho hq hc => hn b K0 q (getL_some.1 hgt) ho hq hc, fun i K p hi hp hc => ?_, fun b o v hv => by rw [h.m]; exact hv, fun b o v hv => .inl (by rw [← h.m]; exact hv)⟩
    rcases from_ i K p hi hp with ⟨rfl, hn⟩ | ⟨K', hs, rfl, hb⟩ | ⟨hl, hb, hn⟩
    · obtain ⟨p', hp', _, _, hw⟩ := h.new K hn
      rw [hp] at hp'
      cases hp'
      rcases hw hc with h1 | ⟨b, Kb, qb, _, hg, hob, hqb, hcb, eb⟩
      · exact .inl h1
      · exact .inr ⟨b, Kb, qb, getL_some.1 hg, hqb, hcb, eb, fun _ => hob, .inr hob⟩
    · obtain ⟨K0, hg, _, ow⟩ := h.set i _ hs
      refine .inr ⟨i, K0, p, getL_some.1 hg, hb, hc, rfl, fun o => ?_, .inl rfl⟩
      rcases ow K rfl with h1 | h1
      · exact h1
      · rw [o] at h1; cases h1
    · exact .inr ⟨i, K, p, hl, hb, hc, rfl, id, .inl rfl⟩
end Go.SL
