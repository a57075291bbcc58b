/- Contracts of functions that the laws reach, on abstract values, and what they need: no conditions but those that each theorem states. -/
import Derived.Test.YtheodenjjaoncaaSlE
import Derived.Laws.AppendOwn
import Derived.Lib.AppendStr
set_option linter.unusedVariables false
set_option linter.unusedSimpArgs false
set_option linter.defProp false
namespace Go.SL
open Go
set_option linter.unusedVariables false
set_option linter.unusedSimpArgs false
section
variable {P : Program} {ρ : Operand → Value} {w : World} {β : Bt} {N : Nat} {get : Nat → Option SK}
variable {dst : Option Tmp} {ty : TypeId} {pos : String} {af : Array Edge} {g : Option (Nat × Bool)}
theorem does_pick {c a b : Operand} {x : Bool} {sa sb : SV} (hc : ρ c = .bool x) (ha : RelV β sa (ρ a)) (hb : RelV β sb (ρ b)) : Does P ⟨dst, .pick c a b, ty, pos, af, g⟩ ρ w β N get ⟨bif x then sa else sb, {}, True⟩ := by
  refine Does.quiet (y := bif x then ρ a else ρ b) (fun w1 hw1 => ?_) ?_
  · cases x <;> simp [execOp, hc, asBool]
  · cases x
    · exact hb
    · exact ha
theorem foldl_set (off : Nat) : ∀ (vs : List Value) (k : Nat) (cells : Array Value) (j : Nat), off + k + vs.length ≤ cells.size →
    ((vs.zipIdx k).foldl (fun cs p => cs.setIfInBounds (off + p.2) p.1) cells)[j]? = if off + k ≤ j ∧ j < off + k + vs.length then vs[j - (off + k)]? else cells[j]?
  | [], k, cells, j, h => by
    rw [if_neg (by simp only [List.length_nil]; omega)]
    rfl
  | v :: vs, k, cells, j, h => by
    simp only [List.length_cons] at h
    rw [List.zipIdx_cons, List.foldl_cons, foldl_set off vs (k + 1) _ j (by simp; omega)]
    simp only [List.length_cons]
    by_cases h1 : off + (k + 1) ≤ j ∧ j < off + (k + 1) + vs.length
    · rw [if_pos h1, if_pos (by omega), show j - (off + k) = (j - (off + (k + 1))) + 1 by omega]
      rfl
    · rw [if_neg h1]
      by_cases h2 : j = off + k
      · subst h2
        rw [if_pos (by omega)]
        have hlt : off + k < cells.size := by omega
        simp [hlt]
      · rw [if_neg (by omega), Array.getElem?_setIfInBounds_ne (by omega)]
theorem foldl_set_size (off : Nat) : ∀ (l : List (Value × Nat)) (cells : Array Value), (l.foldl (fun cs p => cs.setIfInBounds (off + p.2) p.1) cells).size = cells.size
  | [], _ => rfl
  | p :: l, cells => by rw [List.foldl_cons, foldl_set_size off l]; simp
theorem splice_rel {l xs : List SV} {cells vs : List Value} {k : Nat} {cells' : List Value} (h : RelL β l cells) (hx : RelL β xs vs) (hk : k + xs.length ≤ l.length) (hl : cells'.length = cells.length)
    (hg : ∀ j : Nat, cells'[j]? = if k ≤ j ∧ j < k + vs.length then vs[j - k]? else cells[j]?) : RelL β (splice l k xs) cells' := by
  have e1 := h.length
  have e2 := hx.length
  refine RelL.of_get _ _ (by rw [splice_length _ _ _ hk, hl, e1]) fun i u z hu hz => ?_
  rw [splice_get _ _ _ hk] at hu
  rw [hg] at hz
  rw [e2] at hz
  split at hu
  · rename_i hc
    rw [if_pos hc] at hz
    obtain ⟨z', hz', hr⟩ := hx.get _ _ hu
    rw [hz] at hz'
    cases hz'
    exact hr
  · rename_i hc
    rw [if_neg hc] at hz
    obtain ⟨z', hz', hr⟩ := h.get _ _ hu
    rw [hz] at hz'
    cases hz'
    exact hr
def RelP (β : Bt) : List (Nat × SV) → List (Nat × Value) → Prop
  | [], ys => ys = []
  | (i, x) :: xs, ys => ∃ y r, ys = (i, y) :: r ∧ RelV β x y ∧ RelP β xs r
theorem fill_rel (place : Nat → Option (Nat × Nat)) : ∀ (parts : List (Nat × SV)) (vparts : List (Nat × Value)) (l l' : List SV) (cells : Array Value), RelP β parts vparts → RelL β l cells.toList → sfill place l parts = some l' →
    ∃ cells', Instr.fill place cells vparts = some cells' ∧ RelL β l' cells'.toList ∧ l'.length = l.length
  | [], vparts, l, l', cells, hp, hl, h => by
    cases hp
    simp [sfill] at h
    subst h
    exact ⟨cells, by simp [Instr.fill], hl, rfl⟩
  | (i, x) :: parts, vparts, l, l', cells, hp, hl, h => by
    obtain ⟨y, r, rfl, hx, hr⟩ := hp
    unfold sfill at h
    split at h
    · rename_i off size lx hpl hc
      split at h
      · rename_i hcond
        have hlx := cells_rel hx hc
        have e1 := hlx.length
        have e2 := hl.length
        simp only [Array.length_toList] at e1 e2
        let cells1 := y.cells.zipIdx.foldl (fun cs p => cs.setIfInBounds (off + p.2) p.1) cells
        have hc1 : cells1 = (y.cells.toList.zipIdx 0).foldl (fun cs p => cs.setIfInBounds (off + p.2) p.1) cells := by
          show y.cells.zipIdx.foldl _ _ = _
          rw [← Array.foldl_toList, Array.toList_zipIdx]
        have hsize : cells1.size = cells.size := by rw [hc1]; exact foldl_set_size _ _ _
        have hrel : RelL β (splice l off lx) cells1.toList := by
          refine splice_rel hl hlx (by omega) (by simp [hsize]) fun j => ?_
          have := foldl_set off y.cells.toList 0 cells j (by simp; omega)
          rw [← hc1] at this
          simpa using this
        obtain ⟨cells', h1, h2, h3⟩ := fill_rel place parts r _ l' cells1 hr hrel h
        refine ⟨cells', ?_, h2, by rw [h3, splice_length _ _ _ (by omega)]⟩
        unfold Instr.fill
        simp only [hpl]
        have hb : (decide (y.cells.size ≠ size) || decide (off + y.cells.size > cells.size)) = false := by
          simp
          omega
        rw [if_neg (by simpa using hb)]
        exact h1
      · cases h
    · cases h
theorem tzero_run {t : TypeId} {zs : List Value} (h : tzero P t = some zs) : ∃ z, (∀ w, (zeroValue t).run P w = .ok z w) ∧ z.cells.toList = zs := by
  unfold tzero at h
  cases hi : P.info? t with
  | none => simp [hi] at h
  | some i =>
    cases hz : i.zero with
    | none => simp [hi, hz] at h
    | some z =>
      simp only [hi, Option.bind_some, hz, Option.map_some, Option.some.injEq] at h
      exact ⟨z, fun w => by simp [zeroValue, typeInfo, hi, hz], h⟩
theorem run_places (fs : List Field) (hsz : ∀ x ∈ fs, ∃ n, tsz P x.type = some n) : (fs.mapM fun f => (do pure (f.offset, ← sizeOf f.type) : Sem (Nat × Nat))).run P w = .ok (fs.map fun f => (f.offset, (tsz P f.type).getD 0)) w := by
  induction fs with
  | nil => simp
  | cons a fs ih =>
    obtain ⟨n, hn⟩ := hsz a (by simp)
    have := ih fun x hx => hsz x (by simp [hx])
    simp only [List.mapM_cons, Sem.run_bind, run_size hn, Result.andThen_ok, Sem.run_pure, this, List.map_cons, hn, Option.getD_some]
theorem does_build {t : TypeId} {parts : Array (Nat × Operand)} {sparts : List (Nat × SV)} (hp : RelP β sparts (parts.map fun q => (q.1, ρ q.2)).toList) {r : SO} (h : sBuild P t sparts = some r) : Does P ⟨dst, .build t parts, ty, pos, af, g⟩ ρ w β N get r := by
  unfold sBuild at h
  have hlit : ∀ {d}, tlit P t = some d → (d = none ∧ ∃ fs, P.underlying t = some (.struct fs) ∧ ∀ x ∈ fs.toList, ∃ n, tsz P x.type = some n) ∨ (∃ n elem s, d = some s ∧ P.underlying t = some (.array n elem) ∧ tsz P elem = some s) := by
    intro d hd
    unfold tlit at hd
    split at hd
    · rename_i fs hu
      split at hd
      · rename_i hall
        cases hd
        refine .inl ⟨rfl, fs, hu, fun x hx => ?_⟩
        exact Option.isSome_iff_exists.1 (List.all_eq_true.1 hall x hx)
      · cases hd
    · rename_i n elem hu
      obtain ⟨s, hs, rfl⟩ := Option.map_eq_some_iff.1 hd
      exact .inr ⟨n, elem, s, rfl, hu, hs⟩
    · cases hd
  split at h
  · rename_i zs hz hl
    rcases hlit hl with ⟨_, fs, hu, hsz⟩ | ⟨_, _, _, h0, _⟩
    · split at h
      · rename_i l hf
        cases h
        obtain ⟨z, hz1, hz2⟩ := tzero_run hz
        have hplace : (fun i => (fs.toList.map fun f => (f.offset, (tsz P f.type).getD 0))[i]?) = fieldPlaceOf P t := by
          funext i
          unfold fieldPlaceOf tfield
          rw [hu]
          simp only [List.getElem?_map]
          cases hx : fs[i]? with
          | none => simp [hx]
          | some x =>
            obtain ⟨n, hn⟩ := hsz x (by simpa using List.mem_of_getElem? (l := fs.toList) (i := i) (by simpa using hx))
            simp [hx, hn]
        obtain ⟨cells', h1, h2, _⟩ := fill_rel _ sparts _ _ l z.cells hp (by rw [hz2]; exact RelL.vals zs) hf
        have hmap : ∀ w, (fs.mapM fun f => (do pure (f.offset, ← sizeOf f.type) : Sem (Nat × Nat))).run P w = .ok (fs.toList.map fun f => (f.offset, (tsz P f.type).getD 0)).toArray w := by
          intro w
          rw [Array.mapM_eq_mapM_toList]
          simp only [Sem.run_map, run_places (P := P) (w := w) fs.toList hsz, Result.andThen_ok]
        rw [← hplace] at h1
        refine Does.quiet (y := .agg cells') (fun w1 hw1 => ?_) ⟨cells', rfl, h2⟩
        simp only [execOp, Instr.build, Sem.run_bind, hz1, run_underlying hu, Result.andThen_ok, hmap w1]
        simp only [List.getElem?_toArray]
        rw [h1]
        simp
      · cases h
    · cases h0
  · rename_i zs s hz hl
    rcases hlit hl with ⟨h0, _⟩ | ⟨n, elem, s', h0, hu, hs⟩
    · cases h0
    · cases h0
      split at h
      · rename_i l hf
        cases h
        obtain ⟨z, hz1, hz2⟩ := tzero_run hz
        obtain ⟨cells', h1, h2, _⟩ := fill_rel _ sparts _ _ l z.cells hp (by rw [hz2]; exact RelL.vals zs) hf
        refine Does.quiet (y := .agg cells') (fun w1 hw1 => ?_) ⟨cells', rfl, h2⟩
        simp only [execOp, Instr.build, Sem.run_bind, hz1, run_underlying hu, Result.andThen_ok, run_size hs]
        rw [h1]
        simp
      · cases h
  · cases h
theorem zerosOf_length (zs : List Value) : ∀ n, (zerosOf zs n).length = n * zs.length
  | 0 => by simp [zerosOf]
  | n + 1 => by rw [zerosOf, List.length_append, zerosOf_length zs n, List.length_map, Nat.add_mul]; omega
theorem zerosOf_get (zs : List Value) (hz : 0 < zs.length) : ∀ (n i : Nat), i < n * zs.length → (zerosOf zs n)[i]? = some (.v (zs.getD (i % zs.length) undef))
  | 0, i, h => by omega
  | n + 1, i, h => by
    rw [zerosOf]
    rcases Nat.lt_or_ge i zs.length with h1 | h1
    · rw [List.getElem?_append_left (by simpa using h1), Nat.mod_eq_of_lt h1]
      simp [List.getD, h1]
    · rw [List.getElem?_append_right (by simpa using h1)]
      have := zerosOf_get zs hz n (i - zs.length) (by rw [Nat.add_mul] at h; omega)
      rw [List.length_map, this, Nat.mod_eq_sub_mod h1]
theorem does_buildSlice (H : Loc w β N get) {t : TypeId} {len : Nat} {parts : Array (Nat × Operand)} {sparts : List (Nat × SV)} (hp : RelP β sparts (parts.map fun q => (q.1, ρ q.2)).toList) {r : SO} (h : sBuildSlice P N t len sparts = some r) : Does P ⟨dst, .buildSlice t len parts, ty, pos, af, g⟩ ρ w β N get r := by
  unfold sBuildSlice at h
  split at h
  · rename_i elem hu
    split at h
    · rename_i s zs hs hz
      split at h
      · rename_i hc
        obtain ⟨hs0, hzl, hlim⟩ := hc
        split at h
        · rename_i l hf
          split at h
          · rename_i hall
            cases h
            obtain ⟨z, hz1, hz2⟩ := tzero_run hz
            have hzs : z.cells.size = s := by rw [← Array.length_toList, hz2, hzl]
            let zero : Array Value := if len * s = 0 then #[] else z.cells
            let cells : Array Value := (Array.range (len * s)).map (zero[· % zero.size]!)
            have hcells : RelL β (zerosOf zs len) cells.toList := by
              refine RelL.of_get _ _ (by simp [cells, zerosOf_length, hzl]) fun i u y hu' hy => ?_
              have hi : i < len * s := by
                have := (List.getElem?_eq_some_iff.1 hy).1
                simpa [cells] using this
              rw [zerosOf_get zs (by omega) len i (by rw [hzl]; exact hi)] at hu'
              cases hu'
              have hne : len * s ≠ 0 := by omega
              have hm : i % s < s := Nat.mod_lt _ hs0
              have : y = z.cells[i % s]! := by
                simp only [cells, zero, if_neg hne, Array.toList_map, Array.toList_range, List.getElem?_map, List.getElem?_range hi, Option.map_some, Option.some.injEq, hzs] at hy
                exact hy.symm
              show y = _
              rw [this, ← hz2, Array.length_toList, hzs]
              have hm' : i % s < z.cells.size := by omega
              rw [getElem!_pos z.cells (i % s) hm']
              simp [List.getD, hm']
            obtain ⟨cells', h1, h2, h3⟩ := fill_rel _ sparts _ _ l cells hp hcells hf
            rw [zerosOf_length, hzl] at h3
            have hsz' : cells'.size = len * s := by have := h2.length; simp at this; omega
            have hlen : len ≤ maxLen := by
              have : len * 1 ≤ len * s := Nat.mul_le_mul_left _ hs0
              simp [maxLen]; omega
            refine ⟨.value (.slice (some ⟨w.heap.size, 0, none⟩) len len), _, w.alloc (.cells cells' elem), β.put N ⟨w.heap.size, 0, s, len⟩, ?_, .inl rfl, ⟨⟨w.heap.size, 0, s, len⟩, _, len, Bt.put_same .., rfl, Nat.le_refl _, .inr ⟨by simp, by simp⟩⟩, ?_, fun h => (nomatch h)⟩
            · have hlim' : ¬ (len * s > 2 ^ 24) := by omega
              by_cases h0 : len * s = 0
              · have hc0 : cells = Array.map (fun x => (#[] : Array Value)[x % (#[] : Array Value).size]!) (Array.range (len * s)) := by simp only [cells, zero, if_pos h0]
                rw [hc0] at h1
                simp only [execOp, Instr.buildSlice, Sem.run_bind, run_underlying hu, run_size hs, Result.andThen_ok, if_neg hlim', if_pos h0, Sem.run_pure, h1, newRow, run_newObj]
                rfl
              · have hc0 : cells = Array.map (fun x => z.cells[x % z.cells.size]!) (Array.range (len * s)) := by simp only [cells, zero, if_neg h0]
                rw [hc0] at h1
                simp only [execOp, Instr.buildSlice, Sem.run_bind, run_underlying hu, run_size hs, Result.andThen_ok, if_neg hlim', if_neg h0, hz1, Sem.run_pure, h1, newRow, run_newObj]
                rfl
            · refine Out.row H.new rfl rfl rfl rfl cells' s len len elem (fun e => (l.drop (e * s)).take s) true (Nat.le_refl _) hsz' hlen (fun e he => ?_) none (fun _ _ h => (nomatch h))
              have hb : e * s + s ≤ l.length := by
                rw [h3]
                have : (e + 1) * s ≤ len * s := Nat.mul_le_mul_right _ he
                rw [Nat.add_mul] at this
                omega
              refine ⟨by simp; omega, fun j x hx => ?_⟩
              have hj : j < s := by
                have := (List.getElem?_eq_some_iff.1 hx).1
                simp at this
                omega
              rw [List.getElem?_take_of_lt hj, List.getElem?_drop] at hx
              obtain ⟨y, y1, y2, y3⟩ := all_one h2 hall _ x hx
              exact ⟨y, by simpa using y1, y2, y3⟩
          · cases h
        · cases h
      · cases h
    · cases h
  · cases h
theorem does_extract {x : Operand} {i : Nat} {sx : SV} (hx : RelV β sx (ρ x)) {r : SO} (h : sExtract sx i = some r) : Does P ⟨dst, .extract x i, ty, pos, af, g⟩ ρ w β N get r := by
  unfold sExtract at h
  split at h
  · rename_i l
    obtain ⟨cs, hxe, hl⟩ := hx
    split at h
    · cases h
    · rename_i y hny hy
      cases h
      rcases hl.get i y hy with rfl | ⟨z, hz, hr⟩
      · exact absurd rfl hny
      · have hz' : cs[i]? = some z := by simpa using hz
        exact Does.quiet (y := z) (fun w1 _ => by simp [execOp, hxe, Instr.extract, hz']) hr
    · cases h
  · cases h
theorem does_makeIface {t : TypeId} {x : Operand} {sx : SV} (hx : RelV β sx (ρ x)) {r : SO} (h : sMakeIface P t sx = some r) : Does P ⟨dst, .makeInterface t x, ty, pos, af, g⟩ ρ w β N get r := by
  unfold sMakeIface at h
  split at h
  · cases h
  · rename_i d hd hni
    cases h
    refine Does.quiet (y := .iface t (ρ x)) (fun w1 _ => ?_) ⟨ρ x, rfl, hx⟩
    simp only [execOp, Instr.makeInterface, Sem.run_bind, run_underlying hni, Result.andThen_ok]
    cases d <;> first | (exact absurd rfl (hd _)) | simp
  · cases h
theorem does_range (H : Loc w β N get) {t : TypeId} {x : Operand} {sx : SV} (hx : RelV β sx (ρ x)) {r : SO} (h : sRange P N t sx = some r) : Does P ⟨dst, .range t x, ty, pos, af, g⟩ ρ w β N get r := by
  unfold sRange at h
  split at h
  · rename_i s
    obtain hx : ρ x = _ := hx
    split at h
    · rename_i hu
      cases h
      refine ⟨.value (.pointer (some ⟨w.heap.size, 0, none⟩)), _, w.alloc (.stringIter s 0), β.put N ⟨w.heap.size, 0, 1, 1⟩, ?_, .inl rfl, ⟨_, Bt.put_same .., by simp⟩, ?_, fun h => (nomatch h)⟩
      · simp [execOp, Instr.range, hx, run_underlying hu]
      · refine ⟨rfl, rfl, rfl, rfl, by simp, Bt.le_put _ H.new, fun i hi hh => Bt.put_out (K := .it s 0) i hi hh, fun g hg _ => heap_alloc_old' _ _ _ hg, fun _ _ h => (nomatch h), fun K hK => ?_⟩
        cases hK
        exact ⟨_, Bt.put_same .., ⟨heap_alloc_new' _ _, rfl, rfl, rfl⟩, fun _ => by simp, fun _ => .inl (Nat.le_refl _)⟩
    · cases h
  · cases h
theorem does_next (H : Loc w β N get) {x : Operand} {b : Bool} {sx : SV} (hx : RelV β sx (ρ x)) {r : SO} (h : sNext get sx b = some r) : Does P ⟨dst, .next x b, ty, pos, af, g⟩ ρ w β N get r := by
  unfold sNext at h
  split at h
  · rename_i b
    obtain ⟨p, hp, hxe⟩ := hx
    split at h
    · rename_i s pos hg
      cases h
      obtain ⟨q, hq, ⟨hh, hoff, hsz, hcap⟩, _⟩ := H.blk b _ hg
      rw [hp] at hq
      cases hq
      have hxe' : ρ x = .pointer (some ⟨p.blk, 0, none⟩) := by rw [hxe, hoff]; simp
      have hobj : (getObj p.blk).run P w = .ok (.stringIter s pos) w := by simp [getObj, Sem.run, hh]
      by_cases hlt : pos < s.size
      · have hset : (setObj p.blk (.stringIter s (pos + (Utf8.decode s pos).2))).run P w = .ok () { w with heap := w.heap.setIfInBounds p.blk (.stringIter s (pos + (Utf8.decode s pos).2)) } := by simp [setObj, Sem.run, hh]
        refine ⟨.value (.tuple #[.bool true, .int .i64 pos, .int .i32 (Utf8.decode s pos).1]), _, { w with heap := w.heap.setIfInBounds p.blk (.stringIter s (pos + (Utf8.decode s pos).2)) }, β, ?_, .inl rfl, ?_, ?_, fun h => (nomatch h)⟩
        · simp only [execOp, hxe', Instr.next, Sem.run_bind, hobj, Result.andThen_ok, if_pos hlt, hset, Sem.run_pure, goInt]
        · refine ⟨_, rfl, ?_⟩
          simp only [if_pos hlt, decide_eq_true hlt]
          exact ⟨.inr ⟨_, _, rfl, rfl⟩, .inr ⟨_, _, rfl, rfl⟩, .inr ⟨_, _, rfl, rfl⟩, trivial⟩
        · refine ⟨rfl, rfl, rfl, rfl, by simp, .refl _, fun _ h _ => h, fun g' hg' hno => ?_, fun b' K hs' => ?_, fun _ h => (nomatch h)⟩
          · have := hno b _ _ p rfl hg rfl hp (by omega)
            simp [Array.getElem?_setIfInBounds_ne this]
          · simp only [Option.some.injEq, Prod.mk.injEq] at hs'
            obtain ⟨rfl, rfl⟩ := hs'
            refine ⟨_, hg, fun K1 h1' q hq => ?_, fun K1 h1' => .inl rfl⟩
            cases h1'
            rw [hp] at hq
            cases hq
            refine ⟨?_, hoff, hsz, hcap⟩
            simp only [if_pos hlt]
            have := (Array.getElem?_eq_some_iff.1 hh).1
            simp [this]
      · refine ⟨.value (.tuple #[.bool false]), _, w, β, ?_, .inl rfl, ?_, ?_, fun h => (nomatch h)⟩
        · simp only [execOp, hxe', Instr.next, Sem.run_bind, hobj, Result.andThen_ok, if_neg hlt, Sem.run_pure]
        · refine ⟨_, rfl, ?_⟩
          simp only [if_neg hlt, decide_eq_false hlt]
          exact ⟨.inr ⟨_, _, rfl, rfl⟩, .inl rfl, .inl rfl, trivial⟩
        · refine ⟨rfl, rfl, rfl, rfl, Nat.le_refl _, .refl _, fun _ h _ => h, fun g' hg' hno => rfl, fun b' K hs' => ?_, fun _ h => (nomatch h)⟩
          simp only [Option.some.injEq, Prod.mk.injEq] at hs'
          obtain ⟨rfl, rfl⟩ := hs'
          refine ⟨_, hg, fun K1 h1' q hq => ?_, fun K1 h1' => .inl rfl⟩
          cases h1'
          rw [hp] at hq
          cases hq
          exact ⟨by simp only [if_neg hlt]; exact hh, hoff, hsz, hcap⟩
    · cases h
  · cases h
theorem does_len {t : TypeId} {ats : Array TypeId} {x : Operand} {sx : SV} (hx : RelV β sx (ρ x)) (hat : ats[0]? = some t) {r : SO} (h : sLen P t sx = some r) : Does P ⟨dst, .call ⟨.builtin .len, #[x], ats⟩, ty, pos, af, g⟩ ρ w β N get r := by
  unfold sLen at h
  have hrun : ∀ {v : Value}, (∀ w, (Builtin.len_ ats ty #[ρ x]).run P w = .ok v w) → ∀ w1, Ext w β get w1 → (execOp ρ ⟨dst, .call ⟨.builtin .len, #[x], ats⟩, ty, pos, af, g⟩).run P w1 = .ok (.value v) w1 := by
    intro v hv w1 _
    simp only [execOp, resolve, invoke, builtin, Sem.run_bind, Sem.run_pure, Result.andThen_ok, List.map_toArray, List.map_cons, List.map_nil, hv]
  split at h
  · rename_i s hu
    cases h
    obtain hx : ρ x = _ := hx
    refine Does.quiet (hrun (v := .int .i64 s.size) fun w => ?_) rfl
    simp [Builtin.len_, hat, run_underlying hu, hx, goInt]
  · rename_i n e hu
    cases h
    refine Does.quiet (hrun (v := .int .i64 n) fun w => ?_) rfl
    simp [Builtin.len_, hat, run_underlying hu, goInt]
  · rename_i e b s n hu
    cases h
    obtain ⟨p, a, c, hp, hxe, _⟩ := hx
    refine Does.quiet (hrun (v := .int .i64 n) fun w => ?_) rfl
    simp [Builtin.len_, hat, run_underlying hu, hxe, goInt]
  · rename_i e b s k n hu
    cases h
    obtain ⟨p, c, hp, hxe, _⟩ := hx
    refine Does.quiet (hrun (v := .int .i64 n) fun w => ?_) rfl
    simp [Builtin.len_, hat, run_underlying hu, hxe, goInt]
  · rename_i e s rows hu
    cases h
    obtain ⟨_, _, a, c, hxe, _⟩ := hx
    refine Does.quiet (hrun (v := .int .i64 rows.length) fun w => ?_) rfl
    simp [Builtin.len_, hat, run_underlying hu, hxe, goInt]
  · rename_i e a n c hu
    cases h
    obtain hx : ρ x = _ := hx
    refine Does.quiet (hrun (v := .int .i64 n) fun w => ?_) rfl
    simp [Builtin.len_, hat, run_underlying hu, hx, goInt]
  · cases h
theorem does_min {ats : Array TypeId} {x y : Operand} {sx sy : SV} (hx : RelV β sx (ρ x)) (hy : RelV β sy (ρ y)) {r : SO} (h : sMin sx sy = some r) : Does P ⟨dst, .call ⟨.builtin .min, #[x, y], ats⟩, ty, pos, af, g⟩ ρ w β N get r := by
  unfold sMin at h
  split at h
  · rename_i k a k' b
    cases h
    obtain hx : ρ x = _ := hx
    obtain hy : ρ y = _ := hy
    refine Does.quiet (y := .int k (if b < a then b else a)) (fun w1 _ => ?_) rfl
    simp [execOp, resolve, invoke, builtin, Builtin.min_, Builtin.min2, hx, hy]
  · cases h
theorem does_max {ats : Array TypeId} {x y : Operand} {sx sy : SV} (hx : RelV β sx (ρ x)) (hy : RelV β sy (ρ y)) {r : SO} (h : sMax sx sy = some r) : Does P ⟨dst, .call ⟨.builtin .max, #[x, y], ats⟩, ty, pos, af, g⟩ ρ w β N get r := by
  unfold sMax at h
  split at h
  · rename_i k a k' b
    cases h
    obtain hx : ρ x = _ := hx
    obtain hy : ρ y = _ := hy
    refine Does.quiet (y := .int k (if b > a then b else a)) (fun w1 _ => ?_) rfl
    simp [execOp, resolve, invoke, builtin, Builtin.max_, Builtin.max2, hx, hy]
  · cases h
theorem src_cells (H : Loc w β N get) {s : Nat} (hs0 : 0 < s) {y : Operand} {sy : SV} (hy : RelV β sy (ρ y)) {src : Src} (h : sSrc get s sy = some src) (ho : src.ob) :
    ∃ cs : List Value, cs.length = src.n * s ∧ (∀ w', w'.heap = w.heap → (Builtin.firstCells s src.n (ρ y)).run P w' = .ok cs.toArray w') ∧ (∀ w', (Builtin.lenOf (ρ y)).run P w' = .ok src.n w') ∧ (∀ v ∈ cs, v.oneCell' = true) ∧
      ∀ e, e < src.n → (src.el e).length = s ∧ ∀ (j : Nat) (x : SV), (src.el e)[j]? = some x → ∃ z, cs[e * s + j]? = some z ∧ RelV β x z := by
  unfold sSrc at h
  have mk : ∀ (n : Nat) (el : Nat → List SV) (a : Option Addr) (c : Nat), ρ y = .slice a n c →
      (n = 0 ∨ ∃ ad, a = some ad ∧ ∀ e, e < n → (el e).length = s ∧ ∀ (j : Nat) (x : SV), (el e)[j]? = some x → ∃ z, w.cell? (ad.add (e * s + j)) = some z ∧ z.oneCell' = true ∧ RelV β x z) →
      ∃ cs : List Value, cs.length = n * s ∧ (∀ w', w'.heap = w.heap → (Builtin.firstCells s n (ρ y)).run P w' = .ok cs.toArray w') ∧ (∀ w', (Builtin.lenOf (ρ y)).run P w' = .ok n w') ∧ (∀ v ∈ cs, v.oneCell' = true) ∧
        ∀ e, e < n → (el e).length = s ∧ ∀ (j : Nat) (x : SV), (el e)[j]? = some x → ∃ z, cs[e * s + j]? = some z ∧ RelV β x z := by
    intro n el a c hye hc
    rcases hc with rfl | ⟨ad, rfl, hc⟩
    · refine ⟨[], by simp, fun w' _ => ?_, fun w' => by simp [hye, Builtin.lenOf], by simp, fun e he => by omega⟩
      rw [hye]
      cases a <;> simp [Builtin.firstCells, loadCells, loadCellsFrom]
    · let f : Nat → Value := fun i => (w.cell? (ad.add i)).getD undef
      have hf : ∀ i, i < n * s → w.cell? (ad.add i) = some (f i) ∧ (f i).oneCell' = true := by
        intro i hi
        have he : i / s < n := Nat.div_lt_of_lt_mul (by rw [Nat.mul_comm]; exact hi)
        have hj : i % s < s := Nat.mod_lt _ hs0
        obtain ⟨hl, hr⟩ := hc (i / s) he
        obtain ⟨z, z1, z2, _⟩ := hr (i % s) _ (List.getElem?_eq_getElem (by omega))
        have e : i / s * s + i % s = i := by rw [Nat.mul_comm]; exact Nat.div_add_mod i s
        rw [e] at z1
        have hfi : f i = z := by simp [f, z1]
        rw [hfi]
        exact ⟨z1, z2⟩
      refine ⟨(List.range (n * s)).map f, by simp, fun w' hw' => ?_, fun w' => by simp [hye, Builtin.lenOf], fun v hv => ?_, fun e he => ⟨(hc e he).1, fun j x hx => ?_⟩⟩
      · rw [hye]
        simp only [Builtin.firstCells]
        exact run_loadCells (P := P) w' ad (n * s) f fun j hj => by
          have := (hf j hj).1
          rw [← this]
          exact cell_congr (by rw [hw'])
      · obtain ⟨i, hi, rfl⟩ := List.mem_map.1 hv
        exact (hf i (by simpa using hi)).2
      · obtain ⟨z, z1, z2, z3⟩ := (hc e he).2 j x hx
        have hj : j < s := by
          have := (hc e he).1
          rcases Nat.lt_or_ge j (el e).length with h | h
          · omega
          · simp [List.getElem?_eq_none h] at hx
        have hlt : e * s + j < n * s := by
          have : (e + 1) * s ≤ n * s := Nat.mul_le_mul_right _ he
          rw [Nat.add_mul] at this
          omega
        refine ⟨z, ?_, z3⟩
        rw [List.getElem?_map, List.getElem?_range hlt]
        simp [f, z1]
  split at h
  · cases h
    obtain hy : ρ y = _ := hy
    exact mk 0 (fun _ => []) none 0 hy (.inl rfl)
  · rename_i st
    obtain hy : ρ y = _ := hy
    split at h
    · rename_i h1
      cases h
      subst h1
      refine ⟨st.data.toList.map fun b => .int .u8 b.toNat, by simp, fun w' _ => ?_, fun w' => by simp [hy, Builtin.lenOf], ?_, fun e he => ⟨rfl, fun j x hx => ?_⟩⟩
      · rw [hy]
        simp only [Builtin.firstCells, Sem.run_pure]
        congr 1
        have : st.extract 0 st.size = st := by
          apply ByteArray.ext
          simp [ByteArray.data_extract]
        rw [this]
        rw [← Array.toList_map, Array.toArray_toList]
      · intro v hv
        obtain ⟨b, _, rfl⟩ := List.mem_map.1 hv
        rfl
      · obtain ⟨rfl, rfl⟩ := single_get hx
        have hlt : e < st.data.size := he
        refine ⟨.int .u8 (strAt st e), ?_, rfl⟩
        have hg : st.data.toList[e]? = some st.data[e] := by simp [hlt]
        have hst : strAt st e = (st.data[e]).toNat := by unfold strAt; rw [Array.getElem?_eq_getElem hlt]; rfl
        simp only [Nat.mul_one, Nat.add_zero, List.getElem?_map, hg, Option.map_some, hst]
    · cases h
  · rename_i b e0 n
    obtain ⟨p, a, c, hp, hye, hnc, hc⟩ := hy
    split at h
    · rename_i B hg
      split at h
      · rename_i hs
        cases h
        subst hs
        obtain ⟨q, hq, rk, _⟩ := H.blk b _ hg
        rw [hp] at hq
        cases hq
        refine mk n _ a c hye ?_
        rcases Nat.eq_zero_or_pos n with h0 | h0
        · exact .inl h0
        · rcases hc with hc | ⟨ha, _⟩
          · omega
          · refine .inr ⟨_, ha, fun e he => ?_⟩
            have ho' : e0 + n ≤ B.n := ho
            obtain ⟨r1, r2, r3, r4⟩ := rk
            obtain ⟨hl, hr⟩ := r3 (e0 + e) (by omega)
            refine ⟨hl, fun j x hx => ?_⟩
            obtain ⟨z, z1, z2⟩ := hr j x hx
            refine ⟨z, ?_, z2⟩
            rw [add_plain, ← z1, r1, Nat.add_mul]
            congr 2
            omega
      · cases h
    · cases h
  · rename_i b e0 k n
    obtain ⟨p, c, hp, hye, hnc⟩ := hy
    split at h
    · rename_i B hg
      split at h
      · rename_i h1
        cases h
        subst h1
        obtain ⟨q, hq, rk, _⟩ := H.blk b _ hg
        rw [hp] at hq
        cases hq
        refine mk n _ _ c hye (.inr ⟨_, rfl, fun e he => ⟨rfl, fun j x hx => ?_⟩⟩)
        obtain ⟨rfl, rfl⟩ := single_get hx
        have ho1 : e0 < B.n := ho.1
        have ho2 : k + n ≤ B.size := ho.2
        obtain ⟨r1, r2, r3, r4⟩ := rk
        obtain ⟨hl, hr⟩ := r3 e0 ho1
        have hlt : k + e < (B.el e0).length := by omega
        obtain ⟨z, z1, z2, z3⟩ := hr (k + e) _ (List.getElem?_eq_getElem hlt)
        refine ⟨z, ?_, z2, ?_⟩
        · rw [add_plain, ← z1]
          congr 2
          omega
        · rw [cellAt_get _ _ _ (List.getElem?_eq_getElem hlt)]
          exact z3
      · cases h
    · cases h
  · rename_i s0 rows
    obtain ⟨blk, off, a, c, hye, hnc, hc, hrow⟩ := hy
    split at h
    · rename_i hs
      cases h
      subst hs
      refine mk rows.length _ a c hye ?_
      rcases Nat.eq_zero_or_pos rows.length with h0 | h0
      · exact .inl h0
      · rcases hc with hc | ha
        · omega
        · refine .inr ⟨_, ha, fun e he => ?_⟩
          obtain ⟨hl, hcc⟩ := RelR.nth _ _ hrow e _ (List.getElem?_eq_getElem he)
          have hgd : rows.getD e [] = rows[e] := by rw [List.getD_eq_getElem?_getD, List.getElem?_eq_getElem he, Option.getD_some]
          show (rows.getD e []).length = s0 ∧ ∀ (j : Nat) (x : SV), (rows.getD e [])[j]? = some x → _
          rw [hgd]
          refine ⟨hl, fun j x hx => ?_⟩
          obtain ⟨cs, c1, c2⟩ := RelC.toL _ _ hcc
          obtain ⟨v, v1, v2⟩ := c1.get j x hx
          have h3 := H.ro _ _ _ (c2 j v v1)
          exact ⟨v, by rw [add_plain, ← Nat.add_assoc]; exact h3.1, h3.2, v2⟩
    · cases h
  · cases h
theorem append_grow {t t2 elem : TypeId} {d2 : TypeDesc} {i : TypeInfo} {z : Value} (ht : P.underlying t = some (.slice elem)) (ht2 : P.underlying t2 = some d2) (hd2 : srcTy d2 = true) (hi : P.info? elem = some i) (hz : i.zero = some z)
    {a : Option Addr} {n c m : Nat} {xv : Value} {olds news : List Value} (hold : (Builtin.firstCells i.size n (.slice a n c)).run P w.drew = .ok olds.toArray w.drew) (hnew : (Builtin.firstCells i.size m xv).run P w.drew = .ok news.toArray w.drew)
    (hlen : (Builtin.lenOf xv).run P w = .ok m w) (hg : c < n + m) (h63 : ((n + m : Nat) : Int) ≤ 9223372036854775807) (hfit : Builtin.nextslicecap (n + m) c * i.bytes ≤ 281474976710656) :
    (Builtin.append_ #[t, t2] ty #[.slice a n c, xv]).run P w = .ok (.slice (some ⟨w.heap.size, 0, none⟩) (n + m) (grownCap w (n + m) c elem)) (w.drew.alloc (.cells (olds.toArray ++ news.toArray ++ Builtin.zeroCells z.cells (grownCap w (n + m) c elem - (n + m))) elem)) := by
  have hn : ¬ (n + m ≤ c) := by omega
  have h63' : ¬ (9223372036854775807 < ((n : Int) + (m : Int))) := by omega
  have h48' : ¬ (281474976710656 < Builtin.nextslicecap (n + m) c * i.bytes) := by omega
  simp only [Builtin.append_, List.getElem?_toArray, List.getElem?_cons_zero, List.getElem?_cons_succ, Sem.run_bind, run_underlying ht, run_underlying ht2, Result.andThen_ok, sizeOf, typeInfo, run_program, hi, Sem.run_pure]
  have harr : olds.toArray ++ news.toArray = (olds ++ news).toArray := by simp
  cases d2 <;> simp [srcTy] at hd2 <;> simp [hlen, hn, h63', h48', Question.forced, hold, hnew, newRow, grownCap, zeroValue, typeInfo, hi, hz] <;> rw [← Array.append_assoc, harr]
theorem append_room {t t2 elem : TypeId} {d2 : TypeDesc} {s : Nat} (ht : P.underlying t = some (.slice elem)) (ht2 : P.underlying t2 = some d2) (hd2 : srcTy d2 = true) (hs : tsz P elem = some s)
    {a : Option Addr} {n c m : Nat} {xv : Value} {news : List Value} {w' : World} (hnew : (Builtin.firstCells s m xv).run P w = .ok news.toArray w)
    (hlen : (Builtin.lenOf xv).run P w = .ok m w) (hg : n + m ≤ c) (hst : ∀ ad, a = some ad → (storeCells (ad.add (n * s)) news).run P w = .ok () w') (hnil : a = none → w' = w) :
    (Builtin.append_ #[t, t2] ty #[.slice a n c, xv]).run P w = .ok (.slice a (n + m) c) w' := by
  have h1 := run_size (P := P) (w := w) hs
  simp only [Builtin.append_, List.getElem?_toArray, List.getElem?_cons_zero, List.getElem?_cons_succ, Sem.run_bind, run_underlying ht, run_underlying ht2, Result.andThen_ok, h1, Sem.run_pure]
  cases a with
  | none =>
    rw [hnil rfl]
    cases d2 <;> simp [srcTy] at hd2 <;> simp [hlen, hg, hnew]
  | some ad =>
    have := hst ad rfl
    cases d2 <;> simp [srcTy] at hd2 <;> simp [hlen, hg, hnew, this]
theorem does_append (H : Loc w β N get) {t t2 : TypeId} {x y : Operand} {sx sy : SV} (hx : RelV β sx (ρ x)) (hy : RelV β sy (ρ y)) {r : SO} (h : sAppend P N get t t2 sx sy = some r) (ho : r.ob) : Does P ⟨dst, .call ⟨.builtin .append, #[x, y], #[t, t2]⟩, ty, pos, af, g⟩ ρ w β N get r := by
  have hrun : ∀ {v : Value} {w' : World}, (Builtin.append_ #[t, t2] ty #[ρ x, ρ y]).run P w = .ok v w' → (execOp ρ ⟨dst, .call ⟨.builtin .append, #[x, y], #[t, t2]⟩, ty, pos, af, g⟩).run P w = .ok (.value v) w' := by
    intro v w' hv
    simp only [execOp, resolve, invoke, builtin, Sem.run_bind, Sem.run_pure, Result.andThen_ok, List.map_toArray, List.map_cons, List.map_nil, hv]
  unfold sAppend at h
  split at h
  · rename_i elem d2 ht ht2
    split at h
    · rename_i s by_ zs hs hb hz
      split at h
      · rename_i n f b ob1 src hd hsrc
        split at h
        · rename_i hc
          obtain ⟨hs0, hb0, hzl, hd2⟩ := hc
          cases h
          obtain ⟨ho1, ho2, ho3⟩ := ho
          obtain ⟨news, hnl, hnew, hnlen, hnone, hnel⟩ := src_cells (P := P) H hs0 hy hsrc ho2
          have hdst : ∃ (a : Option Addr) (c : Nat) (olds : List Value), ρ x = .slice a n c ∧ n ≤ c ∧ olds.length = n * s ∧ (∀ w', w'.heap = w.heap → (Builtin.firstCells s n (.slice a n c)).run P w' = .ok olds.toArray w') ∧ (∀ v ∈ olds, v.oneCell' = true) ∧
              (∀ e, e < n → (f e).length = s ∧ ∀ (j : Nat) (u : SV), (f e)[j]? = some u → ∃ z, olds[e * s + j]? = some z ∧ RelV β u z) ∧
              ((c = 0) ∨ ∃ b0 B p cs, b = some b0 ∧ get b0 = some (.row B) ∧ B.own = true ∧ β b0 = some p ∧ p.size = s ∧ 0 < p.cap ∧ c ≤ p.cap ∧ a = some ⟨p.blk, 0, none⟩ ∧ p.off = 0 ∧ w.heap[p.blk]? = some (.cells cs B.ty (0, 0)) ∧ cs.size = p.cap * p.size ∧ p.cap ≤ maxLen ∧ p.blk < w.heap.size ∧ B.ty = elem) ∧
              (∀ b0, b = some b0 → ∃ K0, get b0 = some K0) := by
            unfold sDst at hd
            split at hd
            · cases hd
              obtain hx : ρ x = _ := hx
              exact ⟨none, 0, [], hx, Nat.le_refl _, by simp, fun w' _ => by simp [Builtin.firstCells], by simp, fun e he => by omega, .inl rfl, fun _ h => (nomatch h)⟩
            · rename_i b0 n0
              split at hd
              · rename_i B hg
                split at hd
                · rename_i hsz
                  cases hd
                  obtain ⟨p, a, c, hp, hxe, hnc, hcc⟩ := hx
                  have hsrc2 : sSrc get s (.slc b0 0 n) = some ⟨n, fun i => B.el (0 + i), 0 + n ≤ B.n⟩ := by
                    unfold sSrc
                    simp only [hg, hsz.1, if_true]
                  obtain ⟨olds, h1, h2, h3, h4, h5⟩ := src_cells (P := P) H hs0 (y := x) (sy := .slc b0 0 n) ⟨p, a, c, hp, hxe, hnc, hcc⟩ hsrc2 (by simpa using ho1)
                  obtain ⟨q, hq, rk, hlt⟩ := H.blk b0 _ hg
                  rw [hp] at hq
                  cases hq
                  refine ⟨a, c, olds, hxe, hnc, h1, fun w' hw' => ?_, h4, fun e he => ?_, ?_, fun b1 hb1 => ?_⟩
                  · have := h2 w' hw'
                    rwa [hxe] at this
                  · have := h5 e he
                    simpa using this
                  · rcases Nat.eq_zero_or_pos c with h0 | h0
                    · exact .inl h0
                    · rcases hcc with hcc | ⟨ha, hcc⟩
                      · exact .inl hcc
                      · obtain ⟨cs, o1, o2, o3, o4⟩ := rk.2.2.2 hsz.2.1 (by omega)
                        exact .inr ⟨b0, B, p, cs, rfl, hg, hsz.2.1, hp, by rw [rk.1]; exact hsz.1, by omega, by omega, by rw [ha, o2]; simp, o2, o1, o3, o4, hlt (by omega), hsz.2.2⟩
                  · cases hb1
                    exact ⟨_, hg⟩
                · cases hd
              · cases hd
            · cases hd
          obtain ⟨a, c, olds, hxe, hnc, hol, hold, hoone, hoel, hcase, hget⟩ := hdst
          have hset : ∀ b0 K, (b.map fun b => (b, (none : Option SK))) = some (b0, K) → K = none ∧ ∃ K0, get b0 = some K0 := by
            intro b0 K hh
            obtain ⟨b1, hb1, e⟩ := Option.map_eq_some_iff.1 hh
            simp only [Prod.mk.injEq] at e
            obtain ⟨rfl, rfl⟩ := e
            exact ⟨rfl, hget b1 hb1⟩
          have hneed : n + src.n ≤ 140737488355328 := Nat.le_trans (Nat.le_mul_of_pos_right _ hb0) ho3
          have hmax : n + src.n ≤ maxLen := by simp only [maxLen]; omega
          have helem : ∀ e, e < n + src.n → (if e < n then f e else src.el (e - n)).length = s ∧ ∀ (j : Nat) (u : SV), (if e < n then f e else src.el (e - n))[j]? = some u → ∃ z, (olds ++ news)[e * s + j]? = some z ∧ z.oneCell' = true ∧ RelV β u z := by
            intro e he
            by_cases hen : e < n
            · rw [if_pos hen]
              refine ⟨(hoel e hen).1, fun j u hu => ?_⟩
              obtain ⟨z, hz1, hz2⟩ := (hoel e hen).2 j u hu
              refine ⟨z, ?_, hoone z (List.mem_of_getElem? hz1), hz2⟩
              rw [List.getElem?_append_left (List.getElem?_eq_some_iff.1 hz1).1]
              exact hz1
            · rw [if_neg hen]
              refine ⟨(hnel (e - n) (by omega)).1, fun j u hu => ?_⟩
              obtain ⟨z, hz1, hz2⟩ := (hnel (e - n) (by omega)).2 j u hu
              refine ⟨z, ?_, hnone z (List.mem_of_getElem? hz1), hz2⟩
              have hge : n * s ≤ e * s := Nat.mul_le_mul_right _ (by omega)
              rw [List.getElem?_append_right (by rw [hol]; omega), hol, ← hz1, Nat.sub_mul]
              congr 1
              omega
          by_cases hroom : n + src.n ≤ c
          · rcases Nat.eq_zero_or_pos c with hc0 | hc0
            ·
              have hn0 : n = 0 := by omega
              have hm0 : src.n = 0 := by omega
              have hnews : news = [] := List.eq_nil_of_length_eq_zero (by rw [hnl, hm0]; simp)
              subst hnews
              have happ := append_room (P := P) (w := w) (ty := ty) (t := t) (t2 := t2) (a := a) (n := n) (c := c) (m := src.n) (w' := w) ht ht2 hd2 hs (hnew w rfl) (hnlen w) hroom (fun ad _ => by simp [storeCells]) (fun _ => rfl)
              refine ⟨.value (.slice a (n + src.n) c), _, w, β.put N ⟨0, 0, s, 0⟩, hrun (by rw [hxe]; exact happ), .inl rfl, ⟨⟨0, 0, s, 0⟩, a, c, Bt.put_same .., rfl, hroom, .inl hc0⟩, ?_, fun h => by simp at h⟩
              refine ⟨rfl, rfl, rfl, rfl, Nat.le_refl _, Bt.le_put _ H.new, fun i hi hh => Bt.put_out (K := .row ⟨s, n + src.n, true, elem, _⟩) i hi hh, fun _ _ _ => rfl, fun b1 K1 hs1 => ?_, fun K hK => ?_⟩
              · obtain ⟨rfl, K0, hg0⟩ := hset b1 K1 hs1
                exact ⟨K0, hg0, fun _ h => (nomatch h), fun _ h => (nomatch h)⟩
              · cases hK
                refine ⟨_, Bt.put_same .., ⟨rfl, by simp only; omega, fun e he => by simp only at he; omega, fun _ h => absurd h (by simp)⟩, fun h => absurd h (by simp), fun h => absurd h (by simp)⟩
            · rcases hcase with hcase | ⟨b0, B, p, cs, rfl, hg0, hown, hp, hps, hpc, hcp, rfl, hoff, hcs, hcsz, hpm, hblt, hty⟩
              · omega
              ·
                have hcell : ∀ i, i < p.cap * s → (w.cell? ⟨p.blk, i, none⟩).isSome = true := by
                  intro i hi
                  simp only [World.cell?, hcs, Option.isSome_none, Bool.false_eq_true, if_false]
                  simp only [hcsz, hps, Array.getElem?_eq_getElem (show i < cs.size by rw [hcsz, hps]; exact hi), Option.isSome_some]
                have hfz : ∀ i, w.frozen? ⟨p.blk, i, none⟩ = false := fun i => by simp [World.frozen?, hcs]
                have hbound : (n + src.n) * s ≤ p.cap * s := Nat.mul_le_mul_right _ (by omega)
                rw [Nat.add_mul] at hbound
                have hst := run_storeCells_cells (P := P) p.blk (n * s) news 0 w (fun j hj => hcell _ (by rw [hnl] at hj; omega)) (fun j _ => hfz _) hnone
                simp only [Nat.add_zero] at hst
                have happ := append_room (P := P) (w := w) (ty := ty) (t := t) (t2 := t2) (a := some ⟨p.blk, 0, none⟩) (n := n) (c := c) (m := src.n) (w' := w.setCells p.blk (n * s) news) ht ht2 hd2 hs (hnew w rfl) (hnlen w) hroom
                  (fun ad had => by cases had; rw [add_plain, Nat.zero_add]; exact hst) (fun h => (nomatch h))
                have hos := os_setCells p.blk news (n * s) w
                refine ⟨.value (.slice (some ⟨p.blk, 0, none⟩) (n + src.n) c), _, w.setCells p.blk (n * s) news, β.put N p, hrun (by rw [hxe]; exact happ), .inl rfl, ⟨p, _, c, Bt.put_same .., rfl, hroom, .inr ⟨by simp [hoff], by omega⟩⟩, ?_, fun h => by simp at h⟩
                refine ⟨hos.1, hos.2.1, hos.2.2, rfl, by rw [size_setCells]; exact Nat.le_refl _, Bt.le_put _ H.new, fun i hi hh => Bt.put_out (K := .row ⟨s, n + src.n, true, elem, _⟩) i hi hh, fun g' hg' hno => ?_, fun b1 K1 hs1 => ?_, fun K hK => ?_⟩
                · exact heap_setCells _ _ _ _ _ (hno b0 none _ p rfl hg0 hown hp hpc).symm
                · obtain ⟨rfl, K0, hg1⟩ := hset b1 K1 hs1
                  exact ⟨K0, hg1, fun _ h => (nomatch h), fun _ h => (nomatch h)⟩
                · cases hK
                  refine ⟨p, Bt.put_same .., ⟨hps, by simp only; omega, fun e he => ?_, fun _ _ => ?_⟩, fun _ => by rw [size_setCells]; exact hblt, fun _ => .inr ⟨b0, _, p, rfl, hg0, hown, hp, hpc, rfl⟩⟩
                  · simp only at he ⊢
                    refine ⟨(helem e he).1, fun j u hu => ?_⟩
                    obtain ⟨z, hz1, hz2, hz3⟩ := (helem e he).2 j u hu
                    refine ⟨z, ?_, hz2, hz3.mono (Bt.le_put _ H.new)⟩
                    rw [hoff, hps, Nat.zero_add]
                    rcases Nat.lt_or_ge (e * s + j) (n * s) with h1 | h1
                    · rw [World.cell?_setCells_out p.blk news (n * s) w _ (fun _ _ => .inl h1)]
                      rw [List.getElem?_append_left (by rw [hol]; exact h1)] at hz1
                      have hfc := hold w rfl
                      simp only [Builtin.firstCells] at hfc
                      have hread : w.cell? ⟨p.blk, e * s + j, none⟩ = some z := by
                        let f0 : Nat → Value := fun i => (w.cell? ⟨p.blk, i, none⟩).getD undef
                        have hl := run_loadCells (P := P) w ⟨p.blk, 0, none⟩ (n * s) f0 (fun i hi => by
                          rw [add_plain, Nat.zero_add]
                          obtain ⟨v, hv⟩ := Option.isSome_iff_exists.1 (hcell i (by omega))
                          simp [f0, hv])
                        rw [hfc] at hl
                        simp only [Result.ok.injEq, and_true] at hl
                        have hl' : olds = (List.range (n * s)).map f0 := by simpa using hl
                        rw [hl', List.getElem?_map, List.getElem?_range h1] at hz1
                        simp only [Option.map_some, Option.some.injEq] at hz1
                        obtain ⟨v, hv⟩ := Option.isSome_iff_exists.1 (hcell (e * s + j) (by omega))
                        rw [hv, ← hz1]
                        simp [f0, hv]
                      exact hread
                    · rw [List.getElem?_append_right (by rw [hol]; exact h1), hol] at hz1
                      have hlt : e * s + j - n * s < news.length := (List.getElem?_eq_some_iff.1 hz1).1
                      have := World.cell?_setCells_in p.blk news (n * s) w (fun i hi => hcell _ (by rw [hnl] at hi; omega)) (e * s + j - n * s) hlt
                      rw [show n * s + (e * s + j - n * s) = e * s + j by omega] at this
                      rw [this]
                      rw [List.getElem?_eq_getElem hlt] at hz1
                      exact hz1
                  · obtain ⟨cs', h1, h2⟩ := row_setCells p.blk B.ty (0, 0) news (n * s) w cs hcs
                    exact ⟨cs', by rw [← hty]; exact h1, hoff, by rw [h2]; exact hcsz, hpm⟩
          ·
            obtain ⟨i, hi, hisz⟩ : ∃ i, P.info? elem = some i ∧ i.size = s := by
              unfold tsz at hs
              obtain ⟨i, hi, e⟩ := Option.map_eq_some_iff.1 hs
              exact ⟨i, hi, e⟩
            have hiby : i.bytes = by_ := by unfold tby at hb; rw [hi] at hb; simpa using hb
            obtain ⟨z, hz1, hz2⟩ : ∃ z, i.zero = some z ∧ z.cells.toList = zs := by
              unfold tzero at hz
              rw [hi] at hz
              simp only [Option.bind_some, Option.map_eq_some_iff] at hz
              exact hz
            have hzs : z.cells.size = s := by rw [← Array.length_toList, hz2, hzl]
            have happ := append_grow (P := P) (w := w) (ty := ty) (t := t) (t2 := t2) (a := a) (n := n) (c := c) (m := src.n) (xv := ρ y) (olds := olds) (news := news) ht ht2 hd2 hi hz1
              (by rw [hisz]; exact hold _ rfl) (by rw [hisz]; exact hnew _ rfl) (hnlen w) (by omega) (by omega) (growslice_fits (by omega) (by rw [hiby]; exact ho3))
            have hge := grownCap_ge w (n + src.n) c elem
            have hcm := grownCap_le_maxLen w (n + src.n) c elem hmax
            refine ⟨.value (.slice (some ⟨w.heap.size, 0, none⟩) (n + src.n) (grownCap w (n + src.n) c elem)), _, _, β.put N ⟨w.heap.size, 0, s, grownCap w (n + src.n) c elem⟩, hrun (by rw [hxe]; exact happ), .inl rfl,
              ⟨_, _, _, Bt.put_same .., rfl, hge, .inr ⟨by simp, by simp⟩⟩, ?_, fun h => by simp at h⟩
            refine Out.row (w := w) (w0 := w.drew) H.new rfl rfl rfl rfl (olds.toArray ++ news.toArray ++ Builtin.zeroCells z.cells (grownCap w (n + src.n) c elem - (n + src.n))) s (n + src.n) (grownCap w (n + src.n) c elem) elem (fun i => if i < n then f i else src.el (i - n)) true hge ?_ hcm (fun e he => ?_) _ hset
            · simp only [Array.size_append, List.size_toArray, size_zeroCells, hzs, hol, hnl, ← Nat.add_mul]
              congr 1
              omega
            · refine ⟨(helem e he).1, fun j u hu => ?_⟩
              obtain ⟨v, hv1, hv2, hv3⟩ := (helem e he).2 j u hu
              refine ⟨v, ?_, hv2, hv3⟩
              have hlt : e * s + j < (olds ++ news).length := (List.getElem?_eq_some_iff.1 hv1).1
              rw [Array.getElem?_append_left (by simpa using hlt)]
              simpa using hv1
        · cases h
      · cases h
    · cases h
  · cases h
theorem RelR.flat1 {blk : Nat} : ∀ (off : Nat) (rows : List (List SV)), RelR β blk 1 off rows → ∃ vs, RelL β (rows.map fun r => cellAt r 0) vs ∧ ∀ (j : Nat) v, vs[j]? = some v → β.m blk (off + j) = some v
  | _, [], _ => ⟨[], rfl, fun j v h => by simp at h⟩
  | off, r :: rs, ⟨h1, h2, h3⟩ => by
    obtain ⟨vs, v1, v2⟩ := RelR.flat1 (off + 1) rs h3
    match r, h1, h2 with
    | [x], _, ⟨⟨v, hv, hx⟩, _⟩ =>
      refine ⟨v :: vs, ⟨v, vs, rfl, hx, v1⟩, fun j u hu => ?_⟩
      cases j with
      | zero => simp at hu; subst hu; exact hv
      | succ j => rw [show off + (j + 1) = off + 1 + j by omega]; exact v2 j u (by simpa using hu)
theorem RelR.take {blk s : Nat} (n : Nat) (off : Nat) (rows : List (List SV)) (h : RelR β blk s off rows) : RelR β blk s off (rows.take n) := by
  have := rsl_rows (l := 0) (h := n) h
  simpa using this
theorem does_copy (H : Loc w β N get) {t t2 : TypeId} {x y : Operand} {sx sy : SV} (hx : RelV β sx (ρ x)) (hy : RelV β sy (ρ y)) {r : SO} (h : sCopy P get t sx sy = some r) (ho : r.ob) : Does P ⟨dst, .call ⟨.builtin .copy, #[x, y], #[t, t2]⟩, ty, pos, af, g⟩ ρ w β N get r := by
  unfold sCopy at h
  split at h
  · rename_i b e k n rows
    obtain ⟨p, c, hp, hxe, hnc⟩ := hx
    obtain ⟨blk, off, a, c', hye, hnc', hc', hrow⟩ := hy
    split at h
    · rename_i elem B ht hg
      split at h
      · rename_i hs
        cases h
        obtain ⟨ho1, ho2⟩ := ho
        obtain ⟨q, hq, rk, hlt⟩ := H.blk b _ hg
        rw [hp] at hq
        cases hq
        obtain ⟨vs, v1, v2⟩ := RelR.flat1 _ _ (hrow.take (Nat.min rows.length n))
        have hvl := v1.length
        simp only [List.length_map, List.length_take] at hvl
        have hmin : Nat.min rows.length n ≤ rows.length := Nat.min_le_left _ _
        have hmin2 : Nat.min rows.length n ≤ n := Nat.min_le_right _ _
        rw [Nat.min_eq_left hmin] at hvl
        have hone : ∀ v ∈ vs, v.oneCell' = true := by
          intro v hv
          obtain ⟨i, hi⟩ := List.getElem?_of_mem hv
          exact (H.ro _ _ _ (v2 i v hi)).2
        have hfirst : (Builtin.firstCells 1 (Nat.min rows.length n) (ρ y)).run P w = .ok vs.toArray w := by
          rw [hye]
          rcases hc' with h0 | ha
          · have hr0 : rows.length = 0 := by omega
            have : vs = [] := List.eq_nil_of_length_eq_zero (by rw [hvl]; omega)
            subst this
            have h1 : Nat.min rows.length n = 0 := by omega
            rw [h1]
            cases a <;> simp [Builtin.firstCells, loadCells, loadCellsFrom]
          · rw [ha]
            have hl := run_loadCells_list (P := P) w ⟨blk, off, none⟩ vs fun j v hv => by
              rw [add_plain]
              exact (H.ro _ _ _ (v2 j v hv)).1
            rw [hvl] at hl
            simpa [Builtin.firstCells] using hl
        obtain ⟨hsome, hfz, hrel⟩ := upd_rel rk hs.2 (e := e) (k := k) ho1 v1 (by simp only [List.length_map, List.length_take]; omega) hone
        have hst := run_storeCells_cells (P := P) p.blk (p.off + e * p.size + k) vs 0 w (by simpa using hsome) (fun j _ => hfz _) hone
        simp only [Nat.add_zero] at hst
        refine ⟨.value (.int .i64 (Nat.min rows.length n : Nat)), _, w.setCells p.blk (p.off + e * p.size + k) vs, β, ?_, .inl rfl, rfl, ?_, fun h => (nomatch h)⟩
        · have hlen : (Builtin.lenOf (ρ y)).run P w = .ok rows.length w := by rw [hye]; simp [Builtin.lenOf]
          simp only [execOp, resolve, invoke, builtin, Builtin.copy_, Sem.run_bind, Sem.run_pure, Result.andThen_ok, List.map_toArray, List.map_cons, List.map_nil, List.getElem?_toArray, List.getElem?_cons_zero, List.getElem?_cons_succ, run_underlying ht, hxe, hlen, run_size hs.1, hfirst, hst, goInt]
        · have hos := os_setCells p.blk vs (p.off + e * p.size + k) w
          refine ⟨hos.1, hos.2.1, hos.2.2, rfl, by rw [size_setCells]; exact Nat.le_refl _, .refl _, fun _ h _ => h, fun g' hg' hn => ?_, fun b' K hs' => ?_, fun _ h => (nomatch h)⟩
          · exact heap_setCells _ _ _ _ _ (hn b _ _ p rfl hg hs.2 hp (by have := rk.2.1; omega)).symm
          · simp only [Option.some.injEq, Prod.mk.injEq] at hs'
            obtain ⟨rfl, rfl⟩ := hs'
            refine ⟨_, hg, fun K1 h1' q hq => ?_, fun K1 h1' => .inl hs.2⟩
            cases h1'
            rw [hp] at hq
            cases hq
            exact hrel
      · cases h
    · cases h
  · cases h
end
end Go.SL
