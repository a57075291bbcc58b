/- Contracts of functions that the laws reach, on abstract values, and what they need: no conditions but those that each theorem states. -/
import Derived.Test.YtheodenjjaoncaaSlO
import Derived.Carry
import Derived.ChangeOld
import Derived.WalkKit
set_option linter.unusedVariables false
set_option linter.unusedSimpArgs false
set_option linter.defProp false
namespace Go.SL
open Go
set_option linter.unusedVariables false
def roAll (W : World) : Bt := ⟨fun _ => none, fun b o => match W.cell? ⟨b, o, none⟩ with
  | some v => if v.oneCell' = true then some v else none
  | none => none⟩
theorem roAll_some {W : World} {b o : Nat} {v : Value} (h : W.cell? ⟨b, o, none⟩ = some v) (h1 : v.oneCell' = true) : (roAll W).m b o = some v := by
  simp [roAll, h, h1]
theorem cell_lt {W : World} {b o : Nat} {v : Value} (h : W.cell? ⟨b, o, none⟩ = some v) : b < W.heap.size := by
  unfold World.cell? at h
  split at h
  · rename_i cs t fr hb
    exact (Array.getElem?_eq_some_iff.1 hb).1
  · cases h
theorem relH_roAll (W : World) : RelH W (roAll W) [] := by
  refine ⟨fun i K h => by simp at h, fun i K p h => by simp at h, fun i j K K' p q _ h => by simp at h, fun _ _ => rfl, fun b o v hv => ?_, fun i K p b o v h => by simp at h⟩
  unfold roAll at hv
  simp only at hv
  split at hv
  · rename_i u hu
    split at hv
    · rename_i h1; cases hv; exact ⟨hu, h1, cell_lt hu⟩
    · cases hv
  · cases hv
def ClsC (P : Program) : Nat → TypeId → List SV → Prop
  | 0, _, _ => False
  | n + 1, t, l => match P.underlying t with
    | some .bool => ∃ b, l = [.v (.bool b)]
    | some (.int k) => ∃ x, l = [.v (.int k x)] ∧ (Lit.int k x).wf = true
    | some .string => ∃ s : ByteArray, l = [.v (.string s)] ∧ s.size ≤ reachBytes
    | some (.slice e) => ∃ rows, l = [.rsl (P.cellsOf e) rows] ∧ rows.length * P.bytesOf e ≤ reachBytes ∧ ∀ r ∈ rows, ClsC P n e r
    | some (.array m e) => ∃ parts : List (List SV), l = parts.flatten ∧ parts.length = m ∧ ∀ r ∈ parts, ClsC P n e r
    | some (.struct fs) => ∃ parts : List (List SV), l = parts.flatten ∧ parts.length = fs.toList.length ∧ ∀ (i : Nat) f r, fs.toList[i]? = some f → parts[i]? = some r → ClsC P n f.type r
    | _ => False
def tileFrom (P : Program) (total : Nat) : Nat → List Field → Bool
  | off, [] => Nat.beq off total
  | off, f :: fs => Nat.beq f.offset off && tileFrom P total (off + P.cellsOf f.type) fs
def goodT (P : Program) : Nat → TypeId → Bool
  | 0, _ => false
  | n + 1, t => match P.underlying t with
    | some .bool => Nat.beq (P.cellsOf t) 1
    | some (.int _) => Nat.beq (P.cellsOf t) 1
    | some .string => Nat.beq (P.cellsOf t) 1
    | some (.slice e) => Nat.beq (P.cellsOf t) 1 && (Nat.ble 1 (P.cellsOf e) && goodT P n e)
    | some (.array m e) => Nat.beq (P.cellsOf t) (m * P.cellsOf e) && goodT P n e
    | some (.struct fs) => tileFrom P (P.cellsOf t) 0 fs.toList && fs.toList.all fun f => goodT P n f.type
    | _ => false
theorem mapM_some {α β : Type} {f : α → Option β} : ∀ {l : List α} {ys : List β}, l.mapM f = some ys → ys.length = l.length ∧ ∀ (i : Nat) x y, l[i]? = some x → ys[i]? = some y → f x = some y
  | [], ys, h => by simp at h; subst h; exact ⟨rfl, fun i x y h => by simp at h⟩
  | a :: l, ys, h => by
    rw [List.mapM_cons] at h
    cases ha : f a with
    | none => simp [ha] at h
    | some b =>
      cases hl : l.mapM f with
      | none => simp [ha, hl] at h
      | some zs =>
        simp [ha, hl] at h
        subst h
        obtain ⟨h1, h2⟩ := mapM_some hl
        refine ⟨by simp [h1], fun i x y hx hy => ?_⟩
        cases i with
        | zero => simp at hx hy; subst hx; subst hy; exact ha
        | succ i => exact h2 i x y (by simpa using hx) (by simpa using hy)
theorem tile_flat {P : Program} {α : Type} (cs : List α) : ∀ (fs : List Field) (off : Nat), tileFrom P cs.length off fs = true → cs.drop off = (fs.map fun f => (cs.drop f.offset).take (P.cellsOf f.type)).flatten
  | [], off, h => by
    simp [tileFrom] at h
    simp [h]
  | f :: fs, off, h => by
    simp only [tileFrom, Bool.and_eq_true, Nat.beq_eq] at h
    obtain ⟨h1, h2⟩ := h
    have ih := tile_flat cs fs _ h2
    simp only [List.map_cons, List.flatten_cons, ← ih, h1]
    rw [← List.drop_drop, List.take_append_drop]
theorem array_flat {α : Type} (s : Nat) : ∀ (n : Nat) (cs : List α), cs.length = n * s → cs = ((List.range n).map fun i => (cs.drop (i * s)).take s).flatten
  | 0, cs, h => by
    have : cs = [] := List.eq_nil_of_length_eq_zero (by simpa using h)
    subst this
    simp
  | n + 1, cs, h => by
    have ih := array_flat s n (cs.drop s) (by rw [List.length_drop, h, Nat.add_mul]; omega)
    rw [List.range_succ_eq_map]
    simp only [List.map_cons, List.map_map, List.flatten_cons, Nat.zero_mul, List.drop_zero]
    have e : (List.range n).map ((fun i => (cs.drop (i * s)).take s) ∘ Nat.succ) = (List.range n).map fun i => ((cs.drop s).drop (i * s)).take s := by
      refine List.map_congr_left fun i _ => ?_
      simp only [Function.comp_apply, List.drop_drop, Nat.succ_eq_add_one, Nat.add_mul, Nat.one_mul]
      rw [Nat.add_comm]
    rw [e, ← ih, List.take_append_drop]
theorem parts_rel {β : Bt} {Q : Nat → List SV → Prop} : ∀ (vs : List (List Value)), (∀ (i : Nat) v, vs[i]? = some v → ∃ l, Q i l ∧ RelL β l v ∧ l.all SV.one = true) →
    ∃ parts : List (List SV), parts.length = vs.length ∧ (∀ (i : Nat) r, parts[i]? = some r → Q i r) ∧ RelL β parts.flatten vs.flatten ∧ parts.flatten.all SV.one = true ∧ ∀ (i : Nat) r v, parts[i]? = some r → vs[i]? = some v → RelL β r v ∧ r.all SV.one = true := by
  intro vs
  induction vs generalizing Q with
  | nil => intro _; exact ⟨[], rfl, fun i r h => by simp at h, rfl, rfl, fun i r v h => by simp at h⟩
  | cons v vs ih =>
    intro h
    obtain ⟨l, h1, h2, h3⟩ := h 0 v rfl
    obtain ⟨parts, p1, p2, p3, p4, p5⟩ := ih (Q := fun i => Q (i + 1)) fun i u hu => h (i + 1) u (by simpa using hu)
    refine ⟨l :: parts, by simp [p1], fun i r hi => ?_, by simpa using h2.append p3, by rw [List.flatten_cons, List.all_append, h3, p4]; rfl, fun i r u hi hu => ?_⟩
    · cases i with
      | zero => simp at hi; subst hi; exact h1
      | succ i => exact p2 i r (by simpa using hi)
    · cases i with
      | zero => simp at hi hu; subst hi; subst hu; exact ⟨h2, h3⟩
      | succ i => exact p5 i r u (by simpa using hi) (by simpa using hu)
theorem weightsAll_get {H : Type} {P : Program} {e : TypeId} : ∀ {l : List (DataW H)} {B : Nat}, (DataW.weightsAll P e l).all (· ≤ B) = true → ∀ (i : Nat) d, l[i]? = some d → (d.weights P e).all (· ≤ B) = true
  | [], _, _, i, d, h => by simp at h
  | x :: l, B, h, i, d, hi => by
    simp only [DataW.weightsAll, List.all_append, Bool.and_eq_true] at h
    cases i with
    | zero => simp at hi; subst hi; exact h.1
    | succ i => exact weightsAll_get h.2 i d (by simpa using hi)
theorem weightsEach_get {H : Type} {P : Program} : ∀ {ts : List TypeId} {l : List (DataW H)} {B : Nat}, (DataW.weightsEach P ts l).all (· ≤ B) = true → ∀ (i : Nat) t d, ts[i]? = some t → l[i]? = some d → (d.weights P t).all (· ≤ B) = true
  | [], _, _, _, i, t, d, h, _ => by simp at h
  | _ :: _, [], _, _, i, t, d, _, h => by simp at h
  | t0 :: ts, x :: l, B, h, i, t, d, ht, hi => by
    simp only [DataW.weightsEach, List.all_append, Bool.and_eq_true] at h
    cases i with
    | zero => simp at hi ht; subst hi; subst ht; exact h.1
    | succ i => exact weightsEach_get h.2 i t d (by simpa using ht) (by simpa using hi)
theorem cells_of {W : World} {base : Nat} {a : Addr} {n : Nat} {cs : List Value} (h : W.cells? base a n = some cs) : cs.length = n ∧ ∀ (j : Nat) v, cs[j]? = some v → W.cell? (a.add j) = some v := by
  unfold World.cells? at h
  split at h
  · obtain ⟨h1, h2⟩ := mapM_some h
    refine ⟨by simpa using h1, fun j v hv => ?_⟩
    have hj : j < n := by
      have := (List.getElem?_eq_some_iff.1 hv).1
      simpa [h1] using this
    exact h2 j j v (by simp [hj]) hv
  · cases h
theorem trod_cls {H : Type} {enc : TypeId × Value → H} {P : Program} {W : World} {base : Nat} {spare : Nat → Bool} {held : Bool} (hsp : ∀ b, spare b = true) : ∀ (n : Nat) (m : Nat) (t : TypeId) (cs : List Value) (d : DataW H) (ps : List MemPlace),
    goodT P m t = true → DataW.trod enc P W base spare held n t cs = some (d, ps) → (d.weights P t).all (· ≤ reachBytes) = true → ∃ l, ClsC P m t l ∧ RelL (roAll W) l cs ∧ l.all SV.one = true ∧ l.length = P.cellsOf t := by
  intro n
  induction n with
  | zero => intro m t cs d ps _ h; simp [DataW.trod] at h
  | succ n ih =>
    intro m t cs d ps hg h hw
    cases m with
    | zero => simp [goodT] at hg
    | succ m =>
      unfold DataW.trod at h
      unfold goodT at hg
      unfold ClsC
      cases hu : P.underlying t with
      | none => simp [hu] at hg
      | some u =>
        simp only [hu] at h hg ⊢
        cases u with
        | bool =>
          simp only [Nat.beq_eq] at hg
          match cs, h with
          | [.bool b], _ => exact ⟨_, ⟨b, rfl⟩, ⟨_, _, rfl, rfl, rfl⟩, rfl, by rw [hg]; rfl⟩
        | int k =>
          simp only [Nat.beq_eq] at hg
          match cs, h with
          | [.int k' x], h =>
            simp only at h
            split at h
            · rename_i hc
              obtain ⟨rfl, hwf⟩ := hc
              exact ⟨_, ⟨x, rfl, hwf⟩, ⟨_, _, rfl, rfl, rfl⟩, rfl, by rw [hg]; rfl⟩
            · cases h
        | string =>
          simp only [Nat.beq_eq] at hg
          match cs, h with
          | [.string s], h =>
            simp only at h
            split at h
            · cases h
              simp only [DataW.weights, List.all_cons, List.all_nil, Bool.and_true, decide_eq_true_eq, Array.length_toList] at hw
              exact ⟨_, ⟨s, rfl, hw⟩, ⟨_, _, rfl, rfl, rfl⟩, rfl, by rw [hg]; rfl⟩
            · cases h
        | slice e =>
          simp only [Bool.and_eq_true, Nat.beq_eq, Nat.ble_eq] at hg
          match cs, h with
          | [.slice none 0 0], _ => exact ⟨_, ⟨[], rfl, by simp, fun r h => by simp at h⟩, ⟨_, _, rfl, ⟨0, 0, none, 0, rfl, Nat.le_refl _, .inl rfl, trivial⟩, rfl⟩, rfl, by rw [hg.1]; rfl⟩
          | [.slice (some a) len cap], h =>
            simp only at h
            split at h
            · rename_i hc
              obtain ⟨hc1, hc2, hc3⟩ := hc
              cases hm : (List.range len).mapM (fun i => (W.cells? base (a.add (i * P.cellsOf e)) (P.cellsOf e)).bind (DataW.trod enc P W base spare held n e)) with
              | none => simp [hm] at h
              | some elems =>
                rw [hm] at h
                simp only [Option.bind_some] at h
                obtain ⟨rest, hrest, hd⟩ := Option.map_eq_some_iff.1 h
                simp only [Prod.mk.injEq] at hd
                obtain ⟨rfl, _⟩ := hd
                simp only [DataW.weights, hu, List.all_cons, List.all_append, Bool.and_eq_true, decide_eq_true_eq, List.length_map] at hw
                obtain ⟨hw1, hw2, _⟩ := hw
                obtain ⟨hml, hmg⟩ := mapM_some hm
                simp only [List.length_range] at hml
                have hel : ∀ i, i < len → ∃ l, ClsC P m e l ∧ l.length = P.cellsOf e ∧ l.all SV.one = true ∧ ∀ (j : Nat) x, l[j]? = some x → ∃ v, W.cell? ((a.add (i * P.cellsOf e)).add j) = some v ∧ v.oneCell' = true ∧ RelV (roAll W) x v := by
                  intro i hi
                  have hi' : i < elems.length := by omega
                  have h1 := hmg i i elems[i] (by simp [hi]) (List.getElem?_eq_getElem hi')
                  obtain ⟨cs', hcs, ht⟩ := Option.bind_eq_some_iff.1 h1
                  obtain ⟨c1, c2⟩ := cells_of hcs
                  have hwi := weightsAll_get hw2 i elems[i].1 (by rw [List.getElem?_map, List.getElem?_eq_getElem hi']; rfl)
                  obtain ⟨l, l1, l2, l3, l4⟩ := ih m e cs' elems[i].1 elems[i].2 hg.2.2 ht hwi
                  refine ⟨l, l1, l4, l3, fun j x hx => ?_⟩
                  obtain ⟨v, v1, v2, v3⟩ := all_one l2 l3 j x hx
                  exact ⟨v, c2 j v v1, v2, v3⟩
                have hzero : a.spot ≠ none → cap = 0 := by
                  intro hspot
                  rcases Nat.eq_zero_or_pos cap with h0 | h0
                  · exact h0
                  · exfalso
                    have hread : ∃ cs', W.cells? base a (P.cellsOf e) = some cs' := by
                      rcases Nat.eq_zero_or_pos len with h1 | h1
                      · rw [hsp, if_pos rfl] at hrest
                        obtain ⟨r1, r2⟩ := mapM_some hrest
                        simp only [List.length_range] at r1
                        have hr0 : 0 < rest.length := by omega
                        have hx : (List.range (cap - len))[0]? = some 0 := by rw [List.getElem?_range (by omega)]
                        have := r2 0 0 rest[0] hx (List.getElem?_eq_getElem hr0)
                        obtain ⟨cs', hcs, _⟩ := Option.bind_eq_some_iff.1 this
                        rw [h1] at hcs
                        simp only [Nat.add_zero, Nat.zero_mul, Addr.add, if_true] at hcs
                        exact ⟨cs', hcs⟩
                      · have hr0 : 0 < elems.length := by omega
                        have hx : (List.range len)[0]? = some 0 := by rw [List.getElem?_range (by omega)]
                        have := hmg 0 0 elems[0] hx (List.getElem?_eq_getElem hr0)
                        obtain ⟨cs', hcs, _⟩ := Option.bind_eq_some_iff.1 this
                        simp only [Nat.zero_mul, Addr.add, if_true] at hcs
                        exact ⟨cs', hcs⟩
                    obtain ⟨cs', hcs⟩ := hread
                    obtain ⟨c1, c2⟩ := cells_of hcs
                    have hc0 : 0 < cs'.length := by omega
                    have := c2 0 _ (List.getElem?_eq_getElem hc0)
                    simp only [Addr.add, if_true] at this
                    have hnone : W.cell? a = none := by
                      unfold World.cell?
                      cases hs : a.spot with
                      | none => exact absurd hs hspot
                      | some x => split <;> simp
                    rw [hnone] at this
                    cases this
                obtain ⟨b, o, sp⟩ := a
                cases sp with
                | some sp =>
                  have h0 := hzero (by simp)
                  subst h0
                  obtain rfl : len = 0 := by omega
                  exact ⟨_, ⟨[], rfl, by simp, fun r h => by simp at h⟩, ⟨_, _, rfl, ⟨0, 0, _, 0, rfl, Nat.le_refl _, .inl rfl, trivial⟩, rfl⟩, rfl, by rw [hg.1]; rfl⟩
                | none =>
                  let rows : List (List SV) := (List.range len).map fun i => if hi : i < len then (hel i hi).choose else []
                  have hrl : rows.length = len := by simp [rows]
                  have hrg : ∀ (i : Nat) r, rows[i]? = some r → ∃ hi : i < len, r = (hel i hi).choose := by
                    intro i r hr
                    have hi : i < len := by
                      have := (List.getElem?_eq_some_iff.1 hr).1
                      omega
                    refine ⟨hi, ?_⟩
                    simp only [rows, List.getElem?_map, List.getElem?_range hi, Option.map_some, dif_pos hi, Option.some.injEq] at hr
                    exact hr.symm
                  refine ⟨_, ⟨rows, rfl, ?_, fun r hr => ?_⟩, ⟨_, _, rfl, ⟨b, o, some ⟨b, o, none⟩, cap, by rw [hrl], by rw [hrl]; exact hc2, .inr rfl, RelR.of_get _ _ fun i r hr => ?_⟩, rfl⟩, rfl, by rw [hg.1]; rfl⟩
                  · rw [hrl]
                    refine Nat.le_trans (Nat.mul_le_mul_right _ ?_) hw1
                    omega
                  · obtain ⟨i, hi⟩ := List.getElem?_of_mem hr
                    obtain ⟨hi', rfl⟩ := hrg i r hi
                    exact (hel i hi').choose_spec.1
                  · obtain ⟨hi', rfl⟩ := hrg i r hr
                    obtain ⟨_, h2, h3, h4⟩ := (hel i hi').choose_spec
                    refine ⟨h2, RelC.of_get _ _ fun j x hx => ?_⟩
                    obtain ⟨v, v1, v2, v3⟩ := h4 j x hx
                    rw [add_plain, add_plain] at v1
                    exact ⟨v, roAll_some v1 v2, v3⟩
            · cases h
        | array k e =>
          simp only [Bool.and_eq_true, Nat.beq_eq] at hg
          have h' : (if cs.length = P.cellsOf t then ((List.range k).mapM fun i => DataW.trod enc P W base spare held n e ((cs.drop (i * P.cellsOf e)).take (P.cellsOf e))).map fun xs => (DataW.agg (xs.map (·.1)), xs.flatMap (·.2)) else none) = some (d, ps) := by
            rw [← h]
          clear h
          split at h'
          · rename_i hlen
            obtain ⟨xs, hxs, hd⟩ := Option.map_eq_some_iff.1 h'
            simp only [Prod.mk.injEq] at hd
            obtain ⟨rfl, _⟩ := hd
            simp only [DataW.weights, hu] at hw
            obtain ⟨x1, x2⟩ := mapM_some hxs
            simp only [List.length_range] at x1
            let vs : List (List Value) := (List.range k).map fun i => (cs.drop (i * P.cellsOf e)).take (P.cellsOf e)
            have hflat : cs = vs.flatten := array_flat (P.cellsOf e) k cs (by rw [hlen, hg.1])
            obtain ⟨parts, p1, p2, p3, p4, _⟩ := parts_rel (β := roAll W) (Q := fun _ l => ClsC P m e l ∧ l.length = P.cellsOf e) vs fun i v hv => by
              have hi : i < k := by
                have := (List.getElem?_eq_some_iff.1 hv).1
                simpa [vs] using this
              have hi' : i < xs.length := by omega
              simp only [vs, List.getElem?_map, List.getElem?_range hi, Option.map_some, Option.some.injEq] at hv
              have h1 := x2 i i xs[i] (by simp [hi]) (List.getElem?_eq_getElem hi')
              rw [hv] at h1
              obtain ⟨l, l1, l2, l3, l4⟩ := ih m e v xs[i].1 xs[i].2 hg.2 h1 (weightsAll_get hw i xs[i].1 (by rw [List.getElem?_map, List.getElem?_eq_getElem hi']; rfl))
              exact ⟨l, ⟨l1, l4⟩, l2, l3⟩
            rw [← hflat] at p3
            refine ⟨parts.flatten, ⟨parts, rfl, by rw [p1]; simp [vs], fun r hr => ?_⟩, p3, p4, by rw [← p3.length, hlen]⟩
            obtain ⟨i, hi⟩ := List.getElem?_of_mem hr
            exact (p2 i r hi).1
          · cases h'
        | struct fs =>
          simp only [Bool.and_eq_true] at hg
          have h' : (if cs.length = P.cellsOf t then (fs.toList.mapM fun f => DataW.trod enc P W base spare held n f.type ((cs.drop f.offset).take (P.cellsOf f.type))).map fun xs => (DataW.agg (xs.map (·.1)), xs.flatMap (·.2)) else none) = some (d, ps) := by
            rw [← h]
          clear h
          split at h'
          · rename_i hlen
            obtain ⟨xs, hxs, hd⟩ := Option.map_eq_some_iff.1 h'
            simp only [Prod.mk.injEq] at hd
            obtain ⟨rfl, _⟩ := hd
            simp only [DataW.weights, hu] at hw
            obtain ⟨x1, x2⟩ := mapM_some hxs
            let vs : List (List Value) := fs.toList.map fun f => (cs.drop f.offset).take (P.cellsOf f.type)
            have hflat : cs = vs.flatten := by
              have := tile_flat (P := P) cs fs.toList 0 (by rw [hlen]; exact hg.1)
              simpa using this
            obtain ⟨parts, p1, p2, p3, p4, _⟩ := parts_rel (β := roAll W) (Q := fun i l => ∀ f, fs.toList[i]? = some f → ClsC P m f.type l) vs fun i v hv => by
              have hi : i < fs.toList.length := by
                have := (List.getElem?_eq_some_iff.1 hv).1
                simpa [vs] using this
              have hi' : i < xs.length := by omega
              have hf := List.getElem?_eq_getElem hi
              simp only [vs, List.getElem?_map, hf, Option.map_some, Option.some.injEq] at hv
              have h1 := x2 i _ xs[i] hf (List.getElem?_eq_getElem hi')
              rw [hv] at h1
              have hgf : goodT P m (fs.toList[i]).type = true := by
                have := List.all_eq_true.1 hg.2 _ (List.getElem_mem hi)
                exact this
              obtain ⟨l, l1, l2, l3, l4⟩ := ih m _ v xs[i].1 xs[i].2 hgf h1 (weightsEach_get hw i _ xs[i].1 (by rw [List.getElem?_map, hf]; rfl) (by rw [List.getElem?_map, List.getElem?_eq_getElem hi']; rfl))
              exact ⟨l, fun f hf' => by rw [hf] at hf'; cases hf'; exact l1, l2, l3⟩
            rw [← hflat] at p3
            refine ⟨parts.flatten, ⟨parts, rfl, by rw [p1]; simp [vs], fun i f r hf hr => p2 i r hr f hf⟩, p3, p4, by rw [← p3.length, hlen]⟩
          · cases h'
        | _ => simp at hg
theorem arg_abs {H : Type} {enc : TypeId × Value → H} {P : Program} {W : World} {base b0 : Nat} {spare : Nat → Bool} {held : Bool} {t : TypeId} {v : Value} {d : DataW H} {p : List MemPlace} {g : Bool} (hsp : ∀ b, spare b = true) (m : Nat) (hg : goodT P m t = true) (ha : tagg P t = some g)
    (hv : Value.okWide P W .any b0 t v) (h : DataW.Trod enc P W base spare held t v d p) (hw : (d.weights P t).all (· ≤ reachBytes) = true) : ∃ l x, ClsC P m t l ∧ x = (bif g then SV.agg l else cellAt l 0) ∧ RelV (roAll W) x v := by
  obtain ⟨fuel, hf⟩ := h
  obtain ⟨l, l1, l2, l3, l4⟩ := trod_cls hsp fuel m t _ d p hg hf hw
  refine ⟨l, _, l1, rfl, ?_⟩
  cases m with
  | zero => simp [goodT] at hg
  | succ m =>
    have hone : ∀ u, v.cells.toList = [u] → v = u → RelV (roAll W) (cellAt l 0) v := by
      intro u hu e
      rw [hu] at l2
      match l, l2 with
      | [x], ⟨y, r, e1, h1, _⟩ => cases e1; rw [e]; exact h1
      | [], e => cases e
      | x :: y :: r, ⟨_, _, e1, _, _, _, e2, _⟩ => cases e1; cases e2
    unfold goodT at hg
    unfold tagg at ha
    cases hu : P.underlying t with
    | none => simp [hu] at hg
    | some u =>
      simp only [hu, Option.map_some, Option.some.injEq] at hg ha
      subst ha
      cases u with
      | bool => obtain ⟨b, rfl⟩ := Go.WideShapes.okWide_bool hu hv; exact hone _ rfl rfl
      | int k => obtain ⟨n, rfl⟩ := Go.WideShapes.okWide_int hu hv; exact hone _ rfl rfl
      | string => obtain ⟨s, rfl⟩ := Go.WideShapes.okWide_string hu hv; exact hone _ rfl rfl
      | slice e => obtain ⟨a, n, c, rfl⟩ := Go.WideShapes.okWide_slice hu hv; exact hone _ rfl rfl
      | struct fs =>
        unfold Value.okWide at hv
        simp only [hu] at hv
        obtain ⟨cs, rfl, _⟩ := hv
        exact ⟨cs, rfl, l2⟩
      | array n e =>
        unfold Value.okWide at hv
        simp only [hu] at hv
        obtain ⟨cs, rfl, _⟩ := hv
        exact ⟨cs, rfl, l2⟩
      | _ => simp at hg
theorem pure_row {P : Program} {f : FuncId} {xs : List SV} {vs : Array Value} {W : World} (h : Pure P f xs (.v (.bool true))) (hr : RelL (roAll W) xs vs.toList) : Calls P f vs W fun e W' => e = .returned (.bool true) ∧ RowKit.Below W.heap.size W W' := by
  refine (h W (roAll W) vs (relH_roAll W) hr).mono fun e W' ⟨β', L', r, hR, hrel, hh, hk, _, _⟩ => ?_
  obtain ⟨h1, rfl⟩ := hR
  cases h1
  obtain ⟨v, rfl, hv⟩ := hrel
  obtain rfl : v = .bool true := hv
  exact ⟨rfl, hk.os, hk.tape, hk.output, hk.size, fun k hlt => hk.old k hlt fun i K p hi => by simp at hi⟩
end Go.SL
