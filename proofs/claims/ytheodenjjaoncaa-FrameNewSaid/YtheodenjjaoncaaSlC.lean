/- Contracts of functions that the laws reach, on abstract values, and what they need: no conditions but those that each theorem states. -/
import Derived.Test.YtheodenjjaoncaaSlB
import Derived.Laws.Entries
import Derived.Laws.Cells
import Derived.Laws.Append
import Derived.Laws.IdiomCopy
import Derived.ChangeKeysEq
set_option linter.unusedVariables false
set_option linter.unusedSimpArgs false
set_option linter.defProp false
namespace Go.SL
open Go
set_option linter.unusedVariables false
set_option linter.unusedSimpArgs false
structure Loc (w : World) (β : Bt) (N : Nat) (get : Nat → Option SK) : Prop where
  blk : ∀ i K, get i = some K → ∃ p, β i = some p ∧ RelK w β p K ∧ (0 < p.cap → p.blk < w.heap.size)
  new : β N = none
  ro : ∀ b o v, β.m b o = some v → w.cell? ⟨b, o, none⟩ = some v ∧ v.oneCell' = true
structure Ext (w : World) (β : Bt) (get : Nat → Option SK) (w' : World) : Prop where
  b : ∀ b K p, get b = some K → β b = some p → 0 < p.cap → w'.heap[p.blk]? = w.heap[p.blk]?
  m : ∀ b o v, β.m b o = some v → w.cell? ⟨b, o, none⟩ = some v → w'.cell? ⟨b, o, none⟩ = some v
theorem Ext.self (w : World) (β : Bt) (get : Nat → Option SK) : Ext w β get w := ⟨fun _ _ _ _ _ _ => rfl, fun _ _ _ _ h => h⟩
def Does (P : Program) (o : Oper) (ρ : Operand → Value) (w : World) (β : Bt) (N : Nat) (get : Nat → Option SK) (r : SO) : Prop :=
  ∃ nx y w' β', (execOp ρ o).run P w = .ok nx w' ∧ (nx = .value y ∨ (nx = .skip ∧ y = undef)) ∧ RelV β' r.val y ∧ Out w β N get r.chg w' β' ∧
    (r.chg = {} → β' = β ∧ ∀ w1, Ext w β get w1 → (execOp ρ o).run P w1 = .ok (.value y) w1)
theorem Out.quiet (w : World) (β : Bt) (N : Nat) (get : Nat → Option SK) : Out w β N get {} w β :=
  ⟨rfl, rfl, rfl, rfl, Nat.le_refl _, .refl _, fun _ h _ => h, fun _ _ _ => rfl, fun _ _ h => (nomatch h), fun _ h => (nomatch h)⟩
theorem Out.drew {w w' : World} (β : Bt) (N : Nat) (get : Nat → Option SK) (h : w'.heap = w.heap) (ho : w'.os = w.os) (ht : w'.tape = w.tape) (hu : w'.output = w.output) : Out w β N get {} w' β :=
  ⟨ho, ht, hu, rfl, by rw [h]; exact Nat.le_refl _, .refl _, fun _ h _ => h, fun _ _ _ => by rw [h], fun _ _ h => (nomatch h), fun _ h => (nomatch h)⟩
section
variable {P : Program} {o : Oper} {ρ : Operand → Value} {w : World} {β : Bt} {N : Nat} {get : Nat → Option SK}
theorem Does.quiet {r : SV} {ob : Prop} {y : Value} (h : ∀ w1, Ext w β get w1 → (execOp ρ o).run P w1 = .ok (.value y) w1) (hy : RelV β r y) : Does P o ρ w β N get ⟨r, {}, ob⟩ :=
  ⟨_, y, w, β, h w (Ext.self ..), .inl rfl, hy, Out.quiet .., fun _ => ⟨rfl, h⟩⟩
def Bt.put (β : Bt) (N : Nat) (p : Pl) : Bt := ⟨fun i => if i = N then some p else β i, β.m⟩
theorem Bt.put_same (β : Bt) (N : Nat) (p : Pl) : β.put N p N = some p := by simp [Bt.put]
theorem Bt.le_put {β : Bt} {N : Nat} (p : Pl) (h : β N = none) : β.le (β.put N p) := by
  refine ⟨fun i q hq => ?_, fun _ _ _ h => h⟩
  unfold Bt.put
  simp only
  split
  · rename_i e; rw [e, h] at hq; cases hq
  · exact hq
theorem Bt.put_out {β : Bt} {N : Nat} {p : Pl} {K : SK} (i : Nat) (hi : β i = none) (h : i = N → (some K : Option SK) = none) : β.put N p i = none := by
  unfold Bt.put
  simp only
  split
  · rename_i e; exact absurd (h e) (by simp)
  · exact hi
theorem heap_alloc_old' (w : World) (o : Obj) (g : Nat) (h : g < w.heap.size) : (w.alloc o).heap[g]? = w.heap[g]? := by
  show (w.heap.push o)[g]? = _
  rw [Array.getElem?_push, if_neg (by omega)]
theorem heap_alloc_new' (w : World) (o : Obj) : (w.alloc o).heap[w.heap.size]? = some o := by
  show (w.heap.push o)[w.heap.size]? = _
  simp
theorem cell_alloc_new' (w : World) (cs : Array Value) (t : TypeId) (i : Nat) : (w.alloc (.cells cs t)).cell? ⟨w.heap.size, i, none⟩ = cs[i]? := by simp
theorem Out.row {w w0 : World} {β : Bt} {N : Nat} {get : Nat → Option SK} (hN : β N = none) (h : w0.heap = w.heap) (ho : w0.os = w.os) (ht : w0.tape = w.tape) (hu : w0.output = w.output)
    (cs : Array Value) (size n cap : Nat) (ty : TypeId) (el : Nat → List SV) (own : Bool) (hn : n ≤ cap) (hcs : cs.size = cap * size) (hcap : cap ≤ maxLen)
    (hel : ∀ e, e < n → (el e).length = size ∧ ∀ j x, (el e)[j]? = some x → ∃ y, cs[e * size + j]? = some y ∧ y.oneCell' = true ∧ RelV β x y)
    (set : Option (Nat × Option SK)) (hset : ∀ b K, set = some (b, K) → K = none ∧ ∃ K0, get b = some K0) :
    Out w β N get ⟨set, some (.row ⟨size, n, own, ty, el⟩)⟩ (w0.alloc (.cells cs ty)) (β.put N ⟨w.heap.size, 0, size, cap⟩) := by
  refine ⟨ho, ht, hu, rfl, ?_, Bt.le_put _ hN, fun i hi hh => Bt.put_out (K := .row ⟨size, n, own, ty, el⟩) i hi hh, fun g hg _ => ?_, fun b K hs => ?_, fun K hK => ?_⟩
  · have : (w0.alloc (.cells cs ty)).heap.size = w0.heap.size + 1 := by simp
    rw [this, h]; omega
  · rw [heap_alloc_old' _ _ _ (by rw [h]; exact hg), h]
  · obtain ⟨rfl, K0, hg⟩ := hset b K hs
    exact ⟨K0, hg, fun _ e => (nomatch e), fun _ e => (nomatch e)⟩
  · cases hK
    refine ⟨⟨w.heap.size, 0, size, cap⟩, Bt.put_same .., ⟨rfl, hn, fun e he => ⟨(hel e he).1, fun j x hx => ?_⟩, fun _ _ => ⟨cs, ?_, rfl, hcs, hcap⟩⟩, fun _ => ?_, fun _ => .inl (Nat.le_refl _)⟩
    · obtain ⟨y, h1, h2, h3⟩ := (hel e he).2 j x hx
      refine ⟨y, ?_, h2, h3.mono (Bt.le_put _ hN)⟩
      have := cell_alloc_new' w0 cs ty (e * size + j)
      rw [h] at this
      simpa using this.trans h1
    · have := heap_alloc_new' w0 (.cells cs ty)
      rwa [h] at this
    · have : (w0.alloc (.cells cs ty)).heap.size = w0.heap.size + 1 := by simp
      rw [this, h]; simp
theorem SV.one_rel {β : Bt} {x : SV} {y : Value} (h : RelV β x y) (h1 : x.one = true) : y.oneCell' = true := by
  cases x with
  | any => simp [SV.one] at h1
  | v x => cases h; exact h1
  | ptr b e k => obtain ⟨p, _, rfl⟩ := h; rfl
  | slc b e n => obtain ⟨p, a, c, _, rfl, _⟩ := h; rfl
  | asl b e k n => obtain ⟨p, c, _, rfl, _⟩ := h; rfl
  | agg l => simp [SV.one] at h1
  | tup l => simp [SV.one] at h1
  | ifc t x => obtain ⟨u, rfl, _⟩ := h; rfl
  | fn f a b => obtain ⟨_, _, rfl, _⟩ := h; rfl
  | rsl s rows => obtain ⟨_, _, _, _, rfl, _⟩ := h; rfl
  | rp row k => obtain ⟨_, _, rfl, _⟩ := h; rfl
theorem cells_rel {x : SV} {l : List SV} {y : Value} (h : RelV β x y) (hc : x.cells = some l) : RelL β l y.cells.toList := by
  cases x with
  | any => simp [SV.cells] at hc
  | v x =>
    obtain rfl : y = x := h
    cases y <;> simp [SV.cells, Value.cells] at hc ⊢ <;> subst hc <;> first | exact RelL.vals _ | exact ⟨_, _, rfl, rfl, rfl⟩
  | ptr b e k => simp [SV.cells] at hc; subst hc; obtain ⟨p, hp, rfl⟩ := h; exact ⟨_, _, rfl, ⟨p, hp, rfl⟩, rfl⟩
  | slc b e n => simp [SV.cells] at hc; subst hc; obtain ⟨p, a, c, hp, rfl, hh⟩ := h; exact ⟨_, _, rfl, ⟨p, a, c, hp, rfl, hh⟩, rfl⟩
  | asl b e k n => simp [SV.cells] at hc; subst hc; obtain ⟨p, c, hp, rfl, hh⟩ := h; exact ⟨_, _, rfl, ⟨p, c, hp, rfl, hh⟩, rfl⟩
  | agg l' => simp [SV.cells] at hc; subst hc; obtain ⟨cs, rfl, hr⟩ := h; exact hr
  | tup l' => simp [SV.cells] at hc
  | ifc t x => simp [SV.cells] at hc; subst hc; obtain ⟨u, rfl, hr⟩ := h; exact ⟨_, _, rfl, ⟨u, rfl, hr⟩, rfl⟩
  | fn f a b => simp [SV.cells] at hc; subst hc; obtain ⟨c, d, rfl, hr⟩ := h; exact ⟨_, _, rfl, ⟨c, d, rfl, hr⟩, rfl⟩
  | rsl s rows => simp [SV.cells] at hc; subst hc; obtain ⟨b, o, a, c, rfl, hh⟩ := h; exact ⟨_, _, rfl, ⟨b, o, a, c, rfl, hh⟩, rfl⟩
  | rp row k => simp [SV.cells] at hc; subst hc; obtain ⟨b, o, rfl, hh⟩ := h; exact ⟨_, _, rfl, ⟨b, o, rfl, hh⟩, rfl⟩
theorem all_one {l : List SV} {ys : List Value} (h : RelL β l ys) (h1 : l.all SV.one = true) : ∀ (i : Nat) (x : SV), l[i]? = some x → ∃ y, ys[i]? = some y ∧ y.oneCell' = true ∧ RelV β x y := by
  intro i x hx
  obtain ⟨y, hy, hr⟩ := h.get i x hx
  exact ⟨y, hy, SV.one_rel hr (List.all_eq_true.1 h1 x (List.mem_of_getElem? hx)), hr⟩
theorem does_move {dst : Option Tmp} {x : Operand} {ty : TypeId} {pos : String} {af : Array Edge} {g : Option (Nat × Bool)} {sx : SV} (h : RelV β sx (ρ x)) : Does P ⟨dst, .move x, ty, pos, af, g⟩ ρ w β N get ⟨sx, {}, True⟩ :=
  Does.quiet (fun w1 hw1 => by simp [execOp]) h
theorem does_assign {dst : Option Tmp} {x : Operand} {ty : TypeId} {pos : String} {af : Array Edge} {g : Option (Nat × Bool)} {sx : SV} (h : RelV β sx (ρ x)) : Does P ⟨dst, .assign x, ty, pos, af, g⟩ ρ w β N get ⟨sx, {}, True⟩ :=
  Does.quiet (fun w1 hw1 => by simp [execOp]) h
theorem rowOf1_out (H : Loc w β N get) (ty : TypeId) {l : List SV} {ys : List Value} (h : RelL β l ys) (h1 : l.all SV.one = true) (set : Option (Nat × Option SK)) (hset : ∀ b K, set = some (b, K) → K = none ∧ ∃ K0, get b = some K0) :
    Out w β N get ⟨set, some (rowOf1 ty l)⟩ (w.alloc (.cells ys.toArray ty)) (β.put N ⟨w.heap.size, 0, l.length, 1⟩) := by
  refine Out.row H.new rfl rfl rfl rfl ys.toArray l.length 1 1 ty (fun _ => l) true (Nat.le_refl _) (by simp [h.length]) (by simp [maxLen]) (fun e he => ⟨rfl, fun j x hx => ?_⟩) set hset
  obtain ⟨y, hy, h2, h3⟩ := all_one h h1 j x hx
  obtain rfl : e = 0 := by omega
  exact ⟨y, by simpa using hy, h2, h3⟩
theorem ptr_new (p : Pl) (hoff : p.off = 0) (N : Nat) (β : Bt) (e : p.blk = w.heap.size) : RelV (β.put N p) (.ptr N 0 0) (.pointer (some ⟨w.heap.size, 0, none⟩)) :=
  ⟨p, Bt.put_same .., by simp [hoff, e]⟩
theorem does_alloc (H : Loc w β N get) {dst : Option Tmp} {t ty : TypeId} {pos : String} {af : Array Edge} {g : Option (Nat × Bool)} {r : SO} (h : sAlloc P N t = some r) : Does P ⟨dst, .alloc t, ty, pos, af, g⟩ ρ w β N get r := by
  unfold sAlloc tzero at h
  cases hi : P.info? t with
  | none => simp [hi] at h
  | some i =>
    cases hz : i.zero with
    | none => simp [hi, hz] at h
    | some z =>
      simp only [hi, Option.bind_some, hz, Option.map_some] at h
      split at h
      · rename_i hall
        cases h
        refine ⟨.value (.pointer (some ⟨w.heap.size, 0, none⟩)), _, w.alloc (.cells z.cells t), β.put N ⟨w.heap.size, 0, (z.cells.toList.map SV.v).length, 1⟩, ?_, .inl rfl, ptr_new _ rfl N β rfl, ?_, fun h => (nomatch h)⟩
        · simp [execOp, Instr.alloc, zeroValue, typeInfo, hi, hz, newVar, newRow]
        · have h1 : (z.cells.toList.map SV.v).all SV.one = true := by
            rw [List.all_map]; exact hall
          have := rowOf1_out (w := w) (β := β) (N := N) (get := get) H t (RelL.vals z.cells.toList) h1 none (fun _ _ h => (nomatch h))
          simpa using this
      · cases h
theorem does_box (H : Loc w β N get) {dst : Option Tmp} {t ty : TypeId} {x : Operand} {pos : String} {af : Array Edge} {g : Option (Nat × Bool)} {sx : SV} (hx : RelV β sx (ρ x)) {r : SO} (h : sBox N t sx = some r) : Does P ⟨dst, .box t x, ty, pos, af, g⟩ ρ w β N get r := by
  unfold sBox at h
  cases hc : sx.cells with
  | none => simp [hc] at h
  | some l =>
    simp only [hc] at h
    split at h
    · rename_i hall
      cases h
      refine ⟨.value (.pointer (some ⟨w.heap.size, 0, none⟩)), _, w.alloc (.cells (ρ x).cells t), β.put N ⟨w.heap.size, 0, l.length, 1⟩, ?_, .inl rfl, ptr_new _ rfl N β rfl, ?_, fun h => (nomatch h)⟩
      · simp [execOp, Instr.box, newVar, newRow]
      · have := rowOf1_out (w := w) (β := β) (N := N) (get := get) H t (cells_rel hx hc) hall none (fun _ _ h => (nomatch h))
        simpa using this
    · cases h
theorem add_plain (b o j : Nat) : (⟨b, o, none⟩ : Addr).add j = ⟨b, o + j, none⟩ := by unfold Addr.add; split <;> simp_all
theorem cells_at {p : Pl} {B : SB} (hB : RelB w β p B) {e k s : Nat} (he : e < B.n) (hk : k + s ≤ B.size) :
    ∃ cs : List Value, cs.length = s ∧ RelL β (((B.el e).drop k).take s) cs ∧ (∀ j v, cs[j]? = some v → w.cell? ((⟨p.blk, p.off + e * p.size + k, none⟩ : Addr).add j) = some v) ∧ ∀ v ∈ cs, v.oneCell' = true := by
  obtain ⟨r1, r2, r3, r4⟩ := hB
  obtain ⟨hl, hc⟩ := r3 e he
  let f : Nat → Value := fun j => (w.cell? ⟨p.blk, p.off + e * p.size + k + j, none⟩).getD undef
  have hj : ∀ j, j < s → ∃ x, (B.el e)[k + j]? = some x ∧ w.cell? ⟨p.blk, p.off + e * p.size + k + j, none⟩ = some (f j) ∧ (f j).oneCell' = true ∧ RelV β x (f j) := by
    intro j hj
    have hlt : k + j < (B.el e).length := by omega
    obtain ⟨y, h1, h2, h3⟩ := hc (k + j) _ (List.getElem?_eq_getElem hlt)
    rw [show p.off + e * p.size + (k + j) = p.off + e * p.size + k + j by omega] at h1
    refine ⟨_, List.getElem?_eq_getElem hlt, ?_, ?_, ?_⟩ <;> simp only [f, h1, Option.getD_some]
    · exact h2
    · exact h3
  have hget : ∀ j v, ((List.range s).map f)[j]? = some v → j < s ∧ v = f j := by
    intro j v h
    have hj : j < s := by
      have := (List.getElem?_eq_some_iff.1 h).1
      simpa using this
    refine ⟨hj, ?_⟩
    rw [List.getElem?_map, List.getElem?_range hj] at h
    simpa using h.symm
  refine ⟨(List.range s).map f, by simp, RelL.of_get _ _ (by simp; omega) fun i u z hu hz => ?_, fun j v h => ?_, fun v hv => ?_⟩
  · obtain ⟨hi, rfl⟩ := hget i z hz
    obtain ⟨x, h1, _, _, h4⟩ := hj i hi
    rw [List.getElem?_take_of_lt hi, List.getElem?_drop, h1] at hu
    cases hu
    exact h4
  · obtain ⟨hi, rfl⟩ := hget j v h
    rw [add_plain]
    exact (hj j hi).choose_spec.2.1
  · obtain ⟨i, hi⟩ := List.getElem?_of_mem hv
    obtain ⟨h1, rfl⟩ := hget i v hi
    exact (hj i h1).choose_spec.2.2.1
theorem cellAt_get : ∀ (l : List SV) (i : Nat) (x : SV), l[i]? = some x → cellAt l i = x
  | [], i, x, h => by simp at h
  | y :: l, 0, x, h => by simpa [cellAt] using h
  | y :: l, i + 1, x, h => by simp at h; exact cellAt_get l i x h
theorem run_isAgg {t : TypeId} {g : Bool} (h : tagg P t = some g) : (isAgg t).run P w = .ok g w := by
  unfold tagg at h
  obtain ⟨d, hd, rfl⟩ := Option.map_eq_some_iff.1 h
  unfold isAgg
  simp only [Sem.run_bind, run_underlying hd, Result.andThen_ok]
  cases d <;> rfl
theorem run_size {t : TypeId} {s : Nat} (h : tsz P t = some s) : (sizeOf t).run P w = .ok s w := by
  unfold tsz at h
  obtain ⟨i, hi, rfl⟩ := Option.map_eq_some_iff.1 h
  simp [sizeOf, typeInfo, hi]
theorem RelC.toL {blk : Nat} : ∀ (off : Nat) (l : List SV), RelC β blk off l → ∃ cs, RelL β l cs ∧ ∀ (j : Nat) v, cs[j]? = some v → β.m blk (off + j) = some v
  | _, [], _ => ⟨[], rfl, fun j v h => by simp at h⟩
  | off, x :: xs, ⟨⟨v, hv, hx⟩, hr⟩ => by
    obtain ⟨cs, h1, h2⟩ := RelC.toL (off + 1) xs hr
    refine ⟨v :: cs, ⟨v, cs, rfl, hx, h1⟩, fun j u hu => ?_⟩
    cases j with
    | zero => simp at hu; subst hu; exact hv
    | succ j => rw [show off + (j + 1) = off + 1 + j by omega]; exact h2 j u (by simpa using hu)
theorem RelC.drop {blk : Nat} : ∀ (k off : Nat) (l : List SV), RelC β blk off l → RelC β blk (off + k) (l.drop k)
  | 0, _, _, h => h
  | k + 1, _, [], _ => trivial
  | k + 1, off, x :: xs, ⟨_, hr⟩ => by
    rw [show off + (k + 1) = off + 1 + k by omega]
    exact RelC.drop k (off + 1) xs hr
theorem RelC.take {blk : Nat} : ∀ (k off : Nat) (l : List SV), RelC β blk off l → RelC β blk off (l.take k)
  | 0, _, _, _ => by simp [RelC]
  | k + 1, _, [], _ => trivial
  | k + 1, off, x :: xs, ⟨h, hr⟩ => ⟨h, RelC.take k (off + 1) xs hr⟩
theorem RelR.nth {blk s : Nat} : ∀ (off : Nat) (l : List (List SV)), RelR β blk s off l → ∀ (i : Nat) (r : List SV), l[i]? = some r → r.length = s ∧ RelC β blk (off + i * s) r
  | _, [], _, i, r, h => by simp at h
  | off, x :: xs, ⟨h1, h2, h3⟩, i, r, h => by
    cases i with
    | zero => simp at h; subst h; simpa using ⟨h1, h2⟩
    | succ i =>
      have := RelR.nth (off + s) xs h3 i r (by simpa using h)
      rw [Nat.add_mul, Nat.one_mul, show off + (i * s + s) = off + s + i * s by omega]
      exact this
theorem RelR.of_get {blk s : Nat} : ∀ (off : Nat) (l : List (List SV)), (∀ (i : Nat) (r : List SV), l[i]? = some r → r.length = s ∧ RelC β blk (off + i * s) r) → RelR β blk s off l
  | _, [], _ => trivial
  | off, x :: xs, h => ⟨(h 0 x rfl).1, by simpa using (h 0 x rfl).2, RelR.of_get (off + s) xs fun i r hi => by
      have := h (i + 1) r (by simpa using hi)
      rw [Nat.add_mul, Nat.one_mul, show off + (i * s + s) = off + s + i * s by omega] at this
      exact this⟩
theorem RelC.of_get {blk : Nat} : ∀ (off : Nat) (l : List SV), (∀ (i : Nat) x, l[i]? = some x → ∃ v, β.m blk (off + i) = some v ∧ RelV β x v) → RelC β blk off l
  | _, [], _ => trivial
  | off, x :: xs, h => ⟨by simpa using h 0 x rfl, RelC.of_get (off + 1) xs fun i y hy => by
      have := h (i + 1) y (by simpa using hy)
      rw [show off + (i + 1) = off + 1 + i by omega] at this
      exact this⟩
theorem cells_ro {blk off k s : Nat} {row : List SV} (h : RelC β blk off row) (hk : k + s ≤ row.length) :
    ∃ cs : List Value, cs.length = s ∧ RelL β ((row.drop k).take s) cs ∧ ∀ (j : Nat) v, cs[j]? = some v → β.m blk (off + k + j) = some v := by
  obtain ⟨cs, h1, h2⟩ := RelC.toL _ _ (((RelC.drop k off row h)).take s)
  refine ⟨cs, ?_, h1, h2⟩
  rw [h1.length]
  simp
  omega
theorem does_load (H : Loc w β N get) {dst : Option Tmp} {t ty : TypeId} {x : Operand} {pos : String} {af : Array Edge} {g : Option (Nat × Bool)} {sx : SV} (hx : RelV β sx (ρ x)) {r : SO} (h : sLoad P get t sx = some r) (ho : r.ob) : Does P ⟨dst, .load t x, ty, pos, af, g⟩ ρ w β N get r := by
  unfold sLoad at h
  split at h
  · rename_i b e k
    split at h
    · rename_i B s g' hg hs ha
      split at h
      · rename_i hk
        cases h
        obtain ⟨p, hp, rk, _⟩ := H.blk b _ hg
        obtain ⟨q, hq, hy⟩ := hx
        rw [hp] at hq
        cases hq
        obtain ⟨cs, hl, hr, hc, _⟩ := cells_at rk ho hk.1
        have hload : ∀ w1, Ext w β get w1 → (loadVar t ⟨p.blk, p.off + e * p.size + k, none⟩).run P w1 = .ok (if g' then .agg cs.toArray else cs.getD 0 undef) w1 := by
          intro w1 hw1
          have hcap : 0 < p.cap := by have := rk.2.1; omega
          have hc := fun (j : Nat) (v : Value) (h : cs[j]? = some v) => (cell_congr (w := w) (w' := w1) (by rw [add_plain]; exact hw1.b b _ p hg hp hcap)).trans (hc j v h)
          unfold loadVar
          simp only [Sem.run_bind, run_isAgg ha, Result.andThen_ok]
          cases g' with
          | true =>
            have hlc := run_loadCells_list (P := P) w1 ⟨p.blk, p.off + e * p.size + k, none⟩ cs hc
            rw [hl] at hlc
            simp [Sem.run_bind, run_size hs, hlc]
          | false =>
            have h1 := hk.2 rfl
            subst h1
            match cs, hl with
            | [c], _ =>
              have := hc 0 c rfl
              simp only [Addr.add, if_true] at this
              simp [this]
        refine Does.quiet (y := if g' then .agg cs.toArray else cs.getD 0 undef) ?_ ?_
        · intro w1 hw1
          simp only [execOp, hy, Instr.loadAt, Instr.sureAddr, Sem.run_bind, Sem.run_pure, Result.andThen_ok, hload w1 hw1]
        · unfold spart
          cases g' with
          | true => exact ⟨cs.toArray, rfl, by simpa using hr⟩
          | false =>
            have h1 := hk.2 rfl
            subst h1
            match cs, hl, hr with
            | [c], _, hr =>
              simp only [Bool.false_eq_true, if_false, List.getD_cons_zero]
              have hlt : k < (B.el e).length := by
                have := (rk.2.2.1 e ho).1
                omega
              have hsome : (B.el e)[k]? = some (B.el e)[k] := List.getElem?_eq_getElem hlt
              rw [cellAt_get _ _ _ hsome]
              have htake : ((B.el e).drop k).take 1 = [(B.el e)[k]] := by
                rw [List.drop_eq_getElem_cons hlt]; rfl
              rw [htake] at hr
              obtain ⟨y, _, e1, h2, _⟩ := hr
              cases e1
              exact h2
      · cases h
    · cases h
  · rename_i row k
    split at h
    · rename_i s g' hs ha
      split at h
      · rename_i hk
        cases h
        obtain ⟨blk, off, hy, hrow⟩ := hx
        have hob : k + s ≤ row.length := ho
        obtain ⟨cs, hl, hr, hm⟩ := cells_ro hrow hob
        have hload : ∀ w1, Ext w β get w1 → (loadVar t ⟨blk, off + k, none⟩).run P w1 = .ok (if g' then .agg cs.toArray else cs.getD 0 undef) w1 := by
          intro w1 hw1
          have hc : ∀ (j : Nat) (v : Value), cs[j]? = some v → w1.cell? ((⟨blk, off + k, none⟩ : Addr).add j) = some v := fun j v h => by
            rw [add_plain]
            exact hw1.m _ _ _ (hm j v h) (H.ro _ _ _ (hm j v h)).1
          unfold loadVar
          simp only [Sem.run_bind, run_isAgg ha, Result.andThen_ok]
          cases g' with
          | true =>
            have hlc := run_loadCells_list (P := P) w1 ⟨blk, off + k, none⟩ cs hc
            rw [hl] at hlc
            simp [Sem.run_bind, run_size hs, hlc]
          | false =>
            have h1 := hk rfl
            subst h1
            match cs, hl with
            | [c], _ =>
              have := hc 0 c rfl
              simp only [Addr.add, if_true] at this
              simp [this]
        refine Does.quiet (y := if g' then .agg cs.toArray else cs.getD 0 undef) ?_ ?_
        · intro w1 hw1
          simp only [execOp, hy, Instr.loadAt, Instr.sureAddr, Sem.run_bind, Sem.run_pure, Result.andThen_ok, hload w1 hw1]
        · unfold spart
          cases g' with
          | true => exact ⟨cs.toArray, rfl, by simpa using hr⟩
          | false =>
            have h1 := hk rfl
            subst h1
            match cs, hl, hr with
            | [c], _, hr =>
              simp only [Bool.false_eq_true, if_false, List.getD_cons_zero]
              have hlt : k < row.length := by omega
              rw [cellAt_get _ _ _ (List.getElem?_eq_getElem hlt)]
              have htake : (row.drop k).take 1 = [row[k]] := by
                rw [List.drop_eq_getElem_cons hlt]; rfl
              rw [htake] at hr
              obtain ⟨y, _, e1, h2, _⟩ := hr
              cases e1
              exact h2
      · cases h
    · cases h
  · cases h
theorem heap_setCells (b : Nat) : ∀ (vs : List Value) (o : Nat) (w : World) (g : Nat), g ≠ b → (w.setCells b o vs).heap[g]? = w.heap[g]?
  | [], _, _, _, _ => rfl
  | v :: r, o, w, g, h => by
    rw [World.setCells, heap_setCells b r _ _ g h]
    exact RowKit.Below.heap_setCell _ _ _ _ (by simpa using h)
theorem size_setCells (b : Nat) : ∀ (vs : List Value) (o : Nat) (w : World), (w.setCells b o vs).heap.size = w.heap.size
  | [], _, _ => rfl
  | v :: r, o, w => by rw [World.setCells, size_setCells b r]; simp
theorem row_setCells (b : Nat) (ty : TypeId) (fr : Nat × Nat) : ∀ (vs : List Value) (o : Nat) (w : World) (cs : Array Value), w.heap[b]? = some (.cells cs ty fr) → ∃ cs', (w.setCells b o vs).heap[b]? = some (.cells cs' ty fr) ∧ cs'.size = cs.size
  | [], _, w, cs, h => ⟨cs, h, rfl⟩
  | v :: r, o, w, cs, h => by
    rw [World.setCells]
    have h1 : (w.setCell ⟨b, o, none⟩ v).heap[b]? = some (.cells (cs.setIfInBounds o v) ty fr) := by
      obtain ⟨hlt, hb⟩ := Array.getElem?_eq_some_iff.1 h
      simp [World.setCell, Array.getElem?_modify, h]
    obtain ⟨cs', h2, h3⟩ := row_setCells b ty fr r (o + 1) _ _ h1
    exact ⟨cs', h2, by rw [h3]; simp⟩
theorem os_setCells (b : Nat) : ∀ (vs : List Value) (o : Nat) (w : World), (w.setCells b o vs).os = w.os ∧ (w.setCells b o vs).tape = w.tape ∧ (w.setCells b o vs).output = w.output
  | [], _, _ => ⟨rfl, rfl, rfl⟩
  | v :: r, o, w => by rw [World.setCells]; exact os_setCells b r _ _
theorem splice_length (l : List SV) (k : Nat) (xs : List SV) (h : k + xs.length ≤ l.length) : (splice l k xs).length = l.length := by
  simp [splice]; omega
theorem splice_get (l : List SV) (k : Nat) (xs : List SV) (h : k + xs.length ≤ l.length) (j : Nat) : (splice l k xs)[j]? = if k ≤ j ∧ j < k + xs.length then xs[j - k]? else l[j]? := by
  unfold splice
  rcases Nat.lt_or_ge j k with h1 | h1
  · rw [if_neg (by omega), List.append_assoc, List.getElem?_append_left (by simp; omega), List.getElem?_take_of_lt h1]
  · rcases Nat.lt_or_ge j (k + xs.length) with h2 | h2
    · rw [if_pos ⟨h1, h2⟩, List.getElem?_append_left (by simp; omega), List.getElem?_append_right (by simp; omega)]
      congr 1
      simp; omega
    · rw [if_neg (by omega), List.getElem?_append_right (by simp; omega), List.getElem?_drop]
      congr 1
      simp; omega
theorem upd_rel {p : Pl} {B : SB} (hB : RelB w β p B) (hown : B.own = true) {e k : Nat} (he : e < B.n) {l : List SV} {vs : List Value} (hl : RelL β l vs) (hk : k + l.length ≤ B.size) (h1 : ∀ v ∈ vs, v.oneCell' = true) :
    (∀ j, j < vs.length → (w.cell? ⟨p.blk, p.off + e * p.size + k + j, none⟩).isSome = true) ∧ (∀ j, w.frozen? ⟨p.blk, j, none⟩ = false) ∧
    RelB (w.setCells p.blk (p.off + e * p.size + k) vs) β p (B.upd e k l) := by
  have hB0 := hB
  obtain ⟨r1, r2, r3, r4⟩ := hB
  have hvl := hl.length
  have hcap : 0 < p.cap := by omega
  obtain ⟨cs, ho1, ho2, ho3, ho4⟩ := r4 hown hcap
  have hsome : ∀ j, j < vs.length → (w.cell? ⟨p.blk, p.off + e * p.size + k + j, none⟩).isSome = true := by
    intro j hj
    obtain ⟨y, hy, _⟩ := (r3 e he).2 (k + j) _ (List.getElem?_eq_getElem (by have := (r3 e he).1; omega))
    rw [show p.off + e * p.size + k + j = p.off + e * p.size + (k + j) by omega, hy]
    rfl
  refine ⟨hsome, fun j => by simp [World.frozen?, ho1], ?_⟩
  have hupd : (B.upd e k l).size = B.size ∧ (B.upd e k l).n = B.n ∧ (B.upd e k l).own = B.own ∧ (B.upd e k l).ty = B.ty ∧ ∀ i, i < B.n → (B.upd e k l).el i = if i = e then splice (B.el e) k l else B.el i := by
    unfold SB.upd
    split
    · rename_i hn1
      refine ⟨rfl, rfl, rfl, rfl, fun i hi => ?_⟩
      obtain rfl : i = 0 := by omega
      obtain rfl : e = 0 := by omega
      simp
    · exact ⟨rfl, rfl, rfl, rfl, fun i hi => rfl⟩
  obtain ⟨u1, u2, u3, u4, u5⟩ := hupd
  refine ⟨by rw [u1]; exact r1, by rw [u2]; exact r2, fun i hi => ?_, fun _ _ => ?_⟩
  · rw [u2] at hi
    rw [u5 i hi, u1]
    by_cases hie : i = e
    · subst hie
      rw [if_pos rfl]
      have hlen := (r3 i hi).1
      refine ⟨by rw [splice_length _ _ _ (by omega)]; exact hlen, fun j x hx => ?_⟩
      rw [splice_get _ _ _ (by omega)] at hx
      split at hx
      · rename_i hj
        obtain ⟨z, hz, hr⟩ := hl.get _ _ hx
        have hzl : j - k < vs.length := by omega
        have := World.cell?_setCells_in p.blk vs (p.off + i * p.size + k) w hsome (j - k) hzl
        refine ⟨z, ?_, h1 z (List.mem_of_getElem? hz), hr⟩
        rw [show p.off + i * p.size + j = p.off + i * p.size + k + (j - k) by omega, this]
        rw [List.getElem?_eq_getElem hzl] at hz
        exact hz
      · rename_i hj
        obtain ⟨z, hz, h2, hr⟩ := (r3 i hi).2 j x hx
        refine ⟨z, ?_, h2, hr⟩
        rw [World.cell?_setCells_out p.blk vs (p.off + i * p.size + k) w _ (fun _ _ => by simp only []; omega)]
        exact hz
    · rw [if_neg hie]
      refine ⟨(r3 i hi).1, fun j x hx => ?_⟩
      obtain ⟨z, hz, h2, hr⟩ := (r3 i hi).2 j x hx
      refine ⟨z, ?_, h2, hr⟩
      have hjl : j < B.size := by
        have := (r3 i hi).1
        rcases Nat.lt_or_ge j (B.el i).length with h | h
        · omega
        · simp [List.getElem?_eq_none h] at hx
      rw [World.cell?_setCells_out p.blk vs (p.off + e * p.size + k) w _ (fun _ _ => ?_)]
      · exact hz
      · simp only []
        rw [r1]
        rcases Nat.lt_or_gt_of_ne hie with h | h
        · have : (i + 1) * B.size ≤ e * B.size := Nat.mul_le_mul_right _ h
          rw [Nat.add_mul] at this
          omega
        · have : (e + 1) * B.size ≤ i * B.size := Nat.mul_le_mul_right _ h
          rw [Nat.add_mul] at this
          omega
  · obtain ⟨cs', h2, h3⟩ := row_setCells p.blk B.ty (0, 0) vs (p.off + e * p.size + k) w cs ho1
    exact ⟨cs', by rw [u4]; exact h2, ho2, by rw [h3]; exact ho3, ho4⟩
theorem does_store (H : Loc w β N get) {dst : Option Tmp} {t ty : TypeId} {x y : Operand} {pos : String} {af : Array Edge} {g : Option (Nat × Bool)} {sx sy : SV} (hx : RelV β sx (ρ x)) (hy : RelV β sy (ρ y)) {r : SO} (h : sStore P get t sx sy = some r) (ho : r.ob) : Does P ⟨dst, .store t x y, ty, pos, af, g⟩ ρ w β N get r := by
  unfold sStore at h
  split at h
  · rename_i b e k
    split at h
    · rename_i B s l hg hs hc
      split at h
      · rename_i hk
        cases h
        obtain ⟨p, hp, rk, hlt⟩ := H.blk b _ hg
        obtain ⟨q, hq, hxe⟩ := hx
        rw [hp] at hq
        cases hq
        have hl := cells_rel hy hc
        have h1 : ∀ v ∈ (ρ y).cells.toList, v.oneCell' = true := by
          intro v hv
          obtain ⟨i, hi⟩ := List.getElem?_of_mem hv
          have hil : i < l.length := by
            have := hl.length
            have := (List.getElem?_eq_some_iff.1 hi).1
            omega
          obtain ⟨z, hz, h2, _⟩ := all_one hl hk.2.2.1 i _ (List.getElem?_eq_getElem hil)
          rw [hi] at hz
          cases hz
          exact h2
        obtain ⟨hsome, hfz, hrel⟩ := upd_rel rk hk.2.2.2 (e := e) (k := k) ho hl (by omega) h1
        have hst := run_storeCells_cells (P := P) p.blk (p.off + e * p.size + k) (ρ y).cells.toList 0 w (by simpa using hsome) (fun j _ => hfz _) h1
        simp only [Nat.add_zero] at hst
        have hsz : (ρ y).cells.size = s := by have := hl.length; simp at this; omega
        refine ⟨.skip, undef, w.setCells p.blk (p.off + e * p.size + k) (ρ y).cells.toList, β, ?_, .inr ⟨rfl, rfl⟩, trivial, ?_, fun h => (nomatch h)⟩
        · simp only [execOp, hxe, Instr.storeAt, Instr.sureAddr, storeVar, Sem.run_bind, Sem.run_pure, Result.andThen_ok, run_size hs, hsz, ne_eq, not_true_eq_false, if_false, hst]
        · have hos := os_setCells p.blk (ρ y).cells.toList (p.off + e * p.size + k) w
          refine ⟨hos.1, hos.2.1, hos.2.2, rfl, by rw [size_setCells]; exact Nat.le_refl _, .refl _, fun _ h _ => h, fun g hg' hn => ?_, fun b' K hs' => ?_, fun _ h => (nomatch h)⟩
          · exact heap_setCells _ _ _ _ _ (hn b _ _ p rfl hg hk.2.2.2 hp (by have := rk.2.1; omega)).symm
          · simp only [Option.some.injEq, Prod.mk.injEq] at hs'
            obtain ⟨rfl, rfl⟩ := hs'
            refine ⟨_, hg, fun K1 h1' q hq => ?_, fun K1 h1' => .inl hk.2.2.2⟩
            cases h1'
            rw [hp] at hq
            cases hq
            exact hrel
      · cases h
    · cases h
  · cases h
theorem does_nilCheck {dst : Option Tmp} {ty : TypeId} {x : Operand} {pos : String} {af : Array Edge} {g : Option (Nat × Bool)} {sx : SV} (hx : RelV β sx (ρ x)) {r : SO} (h : sNilCheck sx = some r) : Does P ⟨dst, .nilCheck x, ty, pos, af, g⟩ ρ w β N get r := by
  unfold sNilCheck at h
  split at h
  · cases h
    have hx' := hx
    obtain ⟨p, hp, e⟩ := hx
    refine Does.quiet (y := ρ x) (fun w1 hw1 => ?_) hx'
    simp only [execOp, e, Sem.run_pure]
  · cases h
    have hx' := hx
    obtain ⟨b, o, e, _⟩ := hx
    refine Does.quiet (y := ρ x) (fun w1 hw1 => ?_) hx'
    simp only [execOp, e, Sem.run_pure]
  · cases h
    have hx' := hx
    obtain ⟨c, d, e, _⟩ := hx
    refine Does.quiet (y := ρ x) (fun w1 hw1 => ?_) hx'
    simp only [execOp, e, Sem.run_pure]
  · cases h
end
end Go.SL
