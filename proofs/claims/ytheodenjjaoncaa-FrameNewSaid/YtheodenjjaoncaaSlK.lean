/- Contracts of functions that the laws reach, on abstract values, and what they need: no conditions but those that each theorem states. -/
import Derived.Test.YtheodenjjaoncaaSlJ
set_option linter.unusedVariables false
set_option linter.unusedSimpArgs false
set_option linter.defProp false
namespace Go.SL
open Go
set_option linter.unusedVariables false
set_option linter.unusedSimpArgs false
section
variable {P : Program} {ops : Array Oper} {md : Region.Mode} {C : World → Prop} {Q : Act → World → Prop}
def stepTo (P : Program) (o : Oper) (a : Act) (w : World) (K : Value → World → Prop) : Prop :=
  match (execOp a.eval o).run P w with
  | .ok (.value v) w' => K v w'
  | .ok .skip w' => K undef w'
  | .ok (.enter f args) w' => Calls P f args w' fun e w'' => ∃ v, e = .returned v ∧ K v w''
  | _ => False
theorem stepTo_mono {o : Oper} {a : Act} {w : World} {K K' : Value → World → Prop} (h : ∀ v w, K v w → K' v w) (hh : stepTo P o a w K) : stepTo P o a w K' := by
  unfold stepTo at *
  split at hh
  · exact h _ _ hh
  · exact h _ _ hh
  · exact hh.mono fun e w' ⟨v, h1, h2⟩ => ⟨v, h1, h _ _ h2⟩
  · exact hh.elim
def opTo (P : Program) (ops : Array Oper) (i : Nat) (a : Act) (w : World) (K : Act → World → Prop) : Prop :=
  match ops[i]? with
  | none => False
  | some o => if Region.wanted o (yielded ops a.tmps) then stepTo P o a w fun v w' => K (a.put o.dst v) w' else K (a.put o.dst undef) w
theorem opTo_mono {i : Nat} {a : Act} {w : World} {K K' : Act → World → Prop} (h : ∀ a w, K a w → K' a w) (hh : opTo P ops i a w K) : opTo P ops i a w K' := by
  unfold opTo at *
  split at hh
  · exact hh.elim
  · split at hh
    · rename_i h1; simp only [h1, if_true]; exact stepTo_mono (fun v w => h _ _) hh
    · rename_i h1; simp only [h1]; exact h _ _ hh
theorem stepTo_wp {o : Oper} {a : Act} {w : World} {K : Act → World → Prop} {R : Exit → Act → World → Prop} (h : stepTo P o a w fun v w' => K (a.put o.dst v) w') : o.wp P a w K R := by
  unfold stepTo at h
  unfold Oper.wp
  generalize (execOp a.eval o).run P w = r at *
  cases r with
  | halt x w' => exact h.elim
  | ok n w' =>
    cases n <;> first
      | exact h
      | exact h.elim
      | exact h.mono fun e w'' ⟨v, h1, h2⟩ => by subst h1; exact h2
def anyTo (P : Program) (md : Region.Mode) (ops : Array Oper) (C : World → Prop) (Q : Act → World → Prop) : Nat → Array Bool → Act → World → Prop
  | 0, listed, a, w => C w ∧ Region.ready md ops listed = [] ∧ Q a w
  | n + 1, listed, a, w => C w ∧ (Region.ready md ops listed = [] → Q a w) ∧ ∀ i ∈ Region.ready md ops listed, opTo P ops i a w (anyTo P md ops C Q n (listed.setIfInBounds i true))
theorem anyTo_classes {C' : World → Prop} (hC : ∀ w, C w → C' w) : ∀ {n : Nat} {listed : Array Bool} {a : Act} {w : World}, anyTo P md ops C Q n listed a w → anyTo P md ops C' Q n listed a w
  | 0, _, _, _, h => ⟨hC _ h.1, h.2⟩
  | _ + 1, _, _, _, h => ⟨hC _ h.1, h.2.1, fun i hi => opTo_mono (fun _ _ h => anyTo_classes hC h) (h.2.2 i hi)⟩
theorem anyTo_wp : ∀ (n : Nat) (listed : Array Bool) (a : Act) (w : World), anyTo P md ops C Q n listed a w → wpAny P md ops (fun e a w => e = .normal ∧ Q a w) n listed a w
  | 0, _, _, _, h => ⟨h.2.1, rfl, h.2.2⟩
  | n + 1, listed, a, w, h => ⟨fun h0 => ⟨rfl, h.2.1 h0⟩, fun i hi => by
      have h1 := h.2.2 i hi
      unfold opTo at h1
      unfold wpOp
      split at h1
      · exact h1.elim
      · rename_i o ho
        simp only [ho]
        split at h1
        · rename_i hw
          simp only [hw, if_true]
          exact .inl (stepTo_wp (stepTo_mono (fun v w' h2 => anyTo_wp n _ _ _ h2) h1))
        · rename_i hw
          simp only [hw]
          exact anyTo_wp n _ _ _ h1⟩
def Still (P : Program) (ops : Array Oper) (C : World → Prop) (o : Oper) (v : Value) (a : Act) : Prop :=
  (Region.wanted o (yielded ops a.tmps) = true ∧ ∀ w, C w → (execOp a.eval o).run P w = .ok (.value v) w) ∨ (Region.wanted o (yielded ops a.tmps) = false ∧ v = undef)
theorem Still.to {i : Nat} {o : Oper} {v : Value} {a : Act} (hi : ops[i]? = some o) (hy : Still P ops C o v a) {w : World} (hw : C w) {K : Act → World → Prop} (h : K (a.put o.dst v) w) : opTo P ops i a w K := by
  unfold opTo
  simp only [hi]
  rcases hy with ⟨h1, h2⟩ | ⟨h1, rfl⟩
  · simp only [h1, if_true, stepTo, h2 w hw]; exact h
  · simp only [h1]; exact h
theorem anyTo_first {i : Nat} {oi : Oper} {v : Value} (hi : ops[i]? = some oi) (hsel : Region.noSelect ops = true) : ∀ (n : Nat) (listed : Array Bool) (a : Act) (w : World),
    (∀ j oj, ops[j]? = some oj → j ≠ i → listed.getD j true = false → (∀ e ∈ oj.after, Region.binds md e = true → e.on ≠ i) → oi.apart ops oj = true) →
    i ∈ Region.ready md ops listed → Still P ops C oi v a → anyTo P md ops C Q n (listed.setIfInBounds i true) (a.put oi.dst v) w → anyTo P md ops C Q (n + 1) listed a w := by
  have sel := Region.noSelect_spec hsel
  intro n
  induction n with
  | zero =>
    intro listed a w _ hr hy H
    refine ⟨H.1, fun h => by simp [h] at hr, fun j hj => ?_⟩
    by_cases e : j = i
    · subst e; exact hy.to hi H.1 H
    · have := ready_mono hj e
      rw [H.2.1] at this
      simp at this
  | succ n ih =>
    intro listed a w hfree hr hy H
    refine ⟨H.1, fun h => by simp [h] at hr, fun j hj => ?_⟩
    by_cases e : j = i
    · subst e; exact hy.to hi H.1 H
    · obtain ⟨hjun, oj, hoj, hall⟩ := mem_ready.1 hj
      have hio := (mem_ready.1 hr).1
      have hno : ∀ e ∈ oj.after, Region.binds md e = true → e.on ≠ i := by
        intro e he hb heq
        have h1 := hall e he hb
        rw [heq, Array.getD_eq_getD_getElem?] at h1
        rw [Array.getD_eq_getD_getElem?] at hio
        cases hx : listed[i]? with
        | none => simp [hx] at hio
        | some b => simp [hx] at h1 hio; rw [h1] at hio; cases hio
      have hap := hfree j oj hoj e hjun hno
      obtain ⟨p1, p2, p3⟩ := Oper.apart_spec hap
      have hfree' : ∀ k ok, ops[k]? = some ok → k ≠ i → (listed.setIfInBounds j true).getD k true = false → (∀ e ∈ ok.after, Region.binds md e = true → e.on ≠ i) → oi.apart ops ok = true := by
        intro k ok hk hki hun hn
        by_cases hjk : j = k
        · subst hjk; exact hfree j ok hk hki hjun hn
        · rw [getD_set_ne true hjk] at hun
          exact hfree k ok hk hki hun hn
      have still' : ∀ u, Still P ops C oi v (a.put oj.dst u) := by
        intro u
        have e1 := execOp_put (ops := ops) oi (fun cs b => sel i oi cs b hi) a oj.dst u p3
        have e2 := wanted_put (ops := ops) oi a oj.dst u p3
        unfold Still at hy ⊢
        rw [e1, e2]
        exact hy
      have hr' := ready_mono hr (Ne.symm e)
      have hstep := H.2.2 j (ready_mono hj e)
      unfold opTo at hstep ⊢
      simp only [hoj] at hstep ⊢
      rw [wanted_put (ops := ops) oj a oi.dst v p1] at hstep
      have fin : ∀ u w', anyTo P md ops C Q n ((listed.setIfInBounds i true).setIfInBounds j true) ((a.put oi.dst v).put oj.dst u) w' → anyTo P md ops C Q (n + 1) (listed.setIfInBounds j true) (a.put oj.dst u) w' := by
        intro u w' h
        refine ih _ _ _ hfree' hr' (still' u) ?_
        rw [Array.setIfInBounds_comm _ _ e, ← Act.put_comm a v u p2]
        exact h
      split
      · rename_i hw
        simp only [hw, if_true] at hstep
        unfold stepTo at hstep
        rw [execOp_put (ops := ops) oj (fun cs b => sel j oj cs b hoj) a oi.dst v p1] at hstep
        exact stepTo_mono (fun u w' h => fin u w' h) hstep
      · rename_i hw
        simp only [hw] at hstep
        exact fin _ _ hstep
inductive Sch where
  | done
  | non
  | one (i : Nat) (r : Sch)
  | alt (i : Nat) (r o : Sch)
def Sch.ok (md : Region.Mode) (ops : Array Oper) : Sch → Nat → Array Bool → List Nat → Bool
  | .done, _, l, seen => (Region.ready md ops l).isEmpty && seen.isEmpty
  | .non, _, l, seen => !seen.isEmpty && (Region.ready md ops l).all seen.contains
  | .one i r, n, l, seen => seen.isEmpty && !(n == 0) && (Region.ready md ops l).contains i && Region.free md ops l i && r.ok md ops (n - 1) (l.setIfInBounds i true) []
  | .alt i r o, n, l, seen => !(n == 0) && (Region.ready md ops l).contains i && r.ok md ops (n - 1) (l.setIfInBounds i true) [] && o.ok md ops n l (i :: seen)
def OpSem (P : Program) (op : Oper) (next : St → Prop) (s : St) : Prop :=
  ∀ o β a w, RR o β s a w → stepTo P op a w fun v w' => ∃ β' s', next s' ∧ RR o β' s' (a.put op.dst v) w' ∧ ∀ b c v, β.m b c = some v → β'.m b c = some v
def swSch (P : Program) (ops : List Oper) (G : Nat → Option SK) (f : St → Prop) : Sch → St → Prop
  | .done, s => f s
  | .non, _ => True
  | .one i r, s => obind ops[i]? (fun o => obind (sWant ops s.env o) (fun b => SIf b
      (obind (sop P s.L.length G (seval s.env) o.op) (fun q => dstOk s o.dst ∧ q.ob ∧ q.chg = {} ∧ swSch P ops G f r (s.put o.dst q.val)) False ⟨⟩)
      (dstOk s o.dst ∧ swSch P ops G f r (s.put o.dst (.v undef))) ⟨⟩) False ⟨⟩) False ⟨⟩
  | .alt i r o', s => obind ops[i]? (fun o => obind (sWant ops s.env o) (fun b => SIf b
      (obind (sop P s.L.length (getL s.L) (seval s.env) o.op) (fun q => dstOk s o.dst ∧ q.ob ∧ swSch P ops G f r (s.step o.dst q)) (OpSem P o (swSch P ops G f r) s) ⟨⟩)
      (dstOk s o.dst ∧ swSch P ops G f r (s.put o.dst (.v undef))) ⟨⟩) False ⟨⟩) False ⟨⟩ ∧ swSch P ops G f o' s
theorem keep_blk {o : Org} (ho : RelH o.w o.β o.L) {b : Nat} {K : SK} {p : Pl} (hb : o.L[b]? = some (some K)) (hn : K.own = false) (hp : o.β b = some p) (hc : 0 < p.cap) {w : World} {β : Bt} {L : List (Option SK)} (k : Keep o.w o.β o.L w β L) :
    w.heap[p.blk]? = o.w.heap[p.blk]? := by
  refine k.old _ (ho.lt b K p hb hp hc) fun i K' q hi hown hq hqc e => ?_
  have hne : i ≠ b := fun e => by subst e; rw [hi] at hb; cases hb; rw [hn] at hown; cases hown
  exact ho.sep i b K' K q p hne hi hb hq hp hown hqc hc e
def RoC (β : Bt) (w1 : World) : Prop := ∀ b c v, β.m b c = some v → w1.cell? ⟨b, c, none⟩ = some v
theorem swSch_sound {o : Org} (ho : RelH o.w o.β o.L) (hsel : Region.noSelect ops = true) {G : Nat → Option SK} (hG : ∀ b K, G b = some K → o.L[b]? = some (some K) ∧ K.own = false) {f : St → Prop}
    (hf : ∀ s β a w, f s → RR o β s a w → Q a w) :
    ∀ (t : Sch) (n : Nat) (listed : Array Bool) (seen : List Nat) (s : St) (β : Bt) (a : Act) (w : World), t.ok md ops n listed seen = true → swSch P ops.toList G f t s → RR o β s a w →
      ∀ C : World → Prop, (∀ w1, (∃ β L, Keep o.w o.β o.L w1 β L) → RoC β w1 → C w1) →
      (seen = [] → anyTo P md ops C Q n listed a w) ∧
      (∀ m, n = m + 1 → ∀ j ∈ Region.ready md ops listed, (seen ≠ [] ∧ j ∉ seen) → opTo P ops j a w (anyTo P md ops C Q m (listed.setIfInBounds j true)))
  | .done, n, listed, seen, s, β, a, w, hok, hs, hr, C, hC => by
    simp only [Sch.ok, Bool.and_eq_true, List.isEmpty_iff] at hok
    refine ⟨fun _ => ?_, fun m _ j hj _ => by rw [hok.1] at hj; simp at hj⟩
    have hC : C w := hC w ⟨_, _, hr.keep⟩ fun b c v hv => (hr.heap.ro b c v hv).1
    cases n with
    | zero => exact ⟨hC, hok.1, hf s β a w hs hr⟩
    | succ n => exact ⟨hC, fun _ => hf s β a w hs hr, fun i hi => by rw [hok.1] at hi; simp at hi⟩
  | .non, n, listed, seen, s, β, a, w, hok, hs, hr, C, hC => by
    simp only [Sch.ok, Bool.and_eq_true, Bool.not_eq_true', List.all_eq_true] at hok
    refine ⟨fun e => by rw [e] at hok; simp at hok, fun m _ j hj h => ?_⟩
    exact absurd (by simpa using hok.2 j hj) h.2
  | .one i r, n, listed, seen, s, β, a, w, hok, hs, hr, C, hC => by
    simp only [Sch.ok, Bool.and_eq_true, List.isEmpty_iff, Bool.not_eq_true', beq_eq_false_iff_ne] at hok
    obtain ⟨⟨⟨⟨hseen, hn⟩, hrd⟩, hfr⟩, hrest⟩ := hok
    refine ⟨fun _ => ?_, fun m _ j hj h => absurd hseen h.1⟩
    obtain ⟨n, rfl⟩ : ∃ m, n = m + 1 := ⟨n - 1, by omega⟩
    simp only [Nat.add_sub_cancel] at hrest
    let C2 : World → Prop := fun w1 => C w1 ∧ (∃ β L, Keep o.w o.β o.L w1 β L) ∧ RoC β w1
    have hC2 : ∀ w1, (∃ β L, Keep o.w o.β o.L w1 β L) → RoC β w1 → C2 w1 := fun w1 h1 h2 => ⟨hC w1 h1 h2, h1, h2⟩
    refine anyTo_classes (C := C2) (fun _ h => h.1) ?_
    unfold swSch at hs
    cases hop' : ops.toList[i]? with
    | none => rw [hop'] at hs; exact hs.elim
    | some op =>
      rw [hop', obind_some] at hs
      have hop : ops[i]? = some op := by simpa using hop'
      cases hw : sWant ops.toList s.env op with
      | none => rw [hw] at hs; exact hs.elim
      | some b =>
      rw [hw, obind_some] at hs
      have hw' := sWant_wanted hr hw
      simp only [Array.toArray_toList] at hw'
      cases b with
      | false =>
        rw [SIf_false] at hs
        refine anyTo_first hop hsel n listed a w (Region.free_spec hop hfr) (by simpa using hrd) (.inr ⟨hw', rfl⟩) ?_
        exact (swSch_sound ho hsel hG hf r n _ [] _ β _ w hrest hs.2 (hr.put hs.1 rfl) C2 hC2).1 rfl
      | true =>
        rw [SIf_true] at hs
        cases hq : sop P s.L.length G (seval s.env) op.op with
        | none => rw [hq] at hs; exact hs.elim
        | some q =>
          rw [hq, obind_some] at hs
          obtain ⟨hd, hob, hchg, hnext⟩ := hs
          have hbl : ∀ b K, G b = some K → ∃ p, β b = some p ∧ o.β b = some p ∧ RelK o.w o.β p K := by
            intro b K hb
            obtain ⟨h1, h2⟩ := hG b K hb
            obtain ⟨p, hp, rk⟩ := ho.blk b K h1
            have hlt : b < s.base := by rw [hr.base]; exact (List.getElem?_eq_some_iff.1 h1).1
            exact ⟨p, by rw [hr.same b hlt]; exact hp, hp, rk⟩
          have hle : o.β.le β := by
            refine ⟨fun b p hb => ?_, hr.keep.mle⟩
            rcases Nat.lt_or_ge b s.base with h1 | h1
            · rw [hr.same b h1]; exact hb
            · rw [ho.out b (by rw [← hr.base]; exact h1)] at hb; cases hb
          have hloc : Loc w β s.L.length G := ⟨fun b K hb => by
            obtain ⟨p, h1, h2, rk⟩ := hbl b K hb
            obtain ⟨h3, h4⟩ := hG b K hb
            refine ⟨p, h1, ?_, fun hc => Nat.lt_of_lt_of_le (ho.lt b K p h3 h2 hc) hr.keep.size⟩
            rcases Nat.eq_zero_or_pos p.cap with hc | hc
            · exact relK_cap0 hc rk
            · exact (rk.mono hle).congr (keep_blk ho h3 h4 h2 hc hr.keep), hr.heap.out _ (Nat.le_refl _), fun b c v hv => ⟨(hr.heap.ro b c v hv).1, (hr.heap.ro b c v hv).2.1⟩⟩
          obtain ⟨dst, opp, ty, pos, af, g⟩ := op
          obtain ⟨nx, y, w', β', hrun, hnx, hy, hout, hquiet⟩ := sop_does (dst := dst) (ty := ty) (pos := pos) (af := af) (g := g) (P := P) (ρ := a.eval) hloc (fun x => eval_rel hr x) hq hob
          obtain ⟨rfl, hrun'⟩ := hquiet hchg
          refine anyTo_first hop hsel n listed a w (Region.free_spec hop hfr) (by simpa using hrd) (v := y) (.inl ⟨hw', fun w1 ⟨_, ⟨β1, L1, hk1⟩, hro⟩ => hrun' w1 ⟨fun b K p hb hp hc => ?_, fun b c v hv _ => hro b c v hv⟩⟩) ?_
          · obtain ⟨h3, h4⟩ := hG b K hb
            obtain ⟨p', h1, h2, _⟩ := hbl b K hb
            rw [h1] at hp
            cases hp
            rw [keep_blk ho h3 h4 h2 hc hk1, keep_blk ho h3 h4 h2 hc hr.keep]
          · exact (swSch_sound ho hsel hG hf r n _ [] _ β' _ w hrest hnext (hr.put hd hy) C2 hC2).1 rfl
  | .alt i r o', n, listed, seen, s, β, a, w, hok, hs, hr, C, hC => by
    simp only [Sch.ok, Bool.and_eq_true, Bool.not_eq_true', beq_eq_false_iff_ne] at hok
    obtain ⟨⟨⟨hn, hrd⟩, hrest⟩, hoth⟩ := hok
    obtain ⟨n, rfl⟩ : ∃ m, n = m + 1 := ⟨n - 1, by omega⟩
    simp only [Nat.add_sub_cancel] at hrest
    unfold swSch at hs
    obtain ⟨hs, hs'⟩ := hs
    have hthis : opTo P ops i a w (anyTo P md ops C Q n (listed.setIfInBounds i true)) := by
      cases hop' : ops.toList[i]? with
      | none => rw [hop'] at hs; exact hs.elim
      | some op =>
        rw [hop', obind_some] at hs
        have hop : ops[i]? = some op := by simpa using hop'
        unfold opTo
        simp only [hop]
        cases hw : sWant ops.toList s.env op with
        | none => rw [hw] at hs; exact hs.elim
        | some b =>
        rw [hw, obind_some] at hs
        have hw' := sWant_wanted hr hw
        simp only [Array.toArray_toList] at hw'
        rw [hw']
        cases b with
        | false =>
          rw [SIf_false] at hs
          simp only [Bool.false_eq_true, if_false]
          exact (swSch_sound ho hsel hG hf r n _ [] _ β _ w hrest hs.2 (hr.put hs.1 rfl) C hC).1 rfl
        | true =>
          rw [SIf_true] at hs
          simp only [if_true]
          cases hq : sop P s.L.length (getL s.L) (seval s.env) op.op with
          | some q =>
            rw [hq, obind_some] at hs
            obtain ⟨hd, hob, hnext⟩ := hs
            obtain ⟨dst, opp, ty, pos, af, g⟩ := op
            obtain ⟨nx, y, w', β', hrun, hnx, hy, hout, _⟩ := sop_does (dst := dst) (ty := ty) (pos := pos) (af := af) (g := g) (P := P) (ρ := a.eval) (loc_of hr) (fun x => eval_rel hr x) hq hob
            have hr' := hr.step hd hy hout
            have hC' : ∀ w1, (∃ β L, Keep o.w o.β o.L w1 β L) → RoC β' w1 → C w1 := fun w1 h1 h2 => hC w1 h1 fun b c v hv => h2 b c v (by rw [hout.m]; exact hv)
            unfold stepTo
            rw [hrun]
            rcases hnx with rfl | ⟨rfl, rfl⟩
            · exact (swSch_sound ho hsel hG hf r n _ [] _ β' _ w' hrest hnext hr' C hC').1 rfl
            · exact (swSch_sound ho hsel hG hf r n _ [] _ β' _ w' hrest hnext hr' C hC').1 rfl
          | none =>
            rw [hq, obind_none] at hs
            exact stepTo_mono (fun v w' ⟨β', s', h1, h2, h3⟩ => (swSch_sound ho hsel hG hf r n _ [] s' β' _ w' hrest h1 h2 C fun w1 h4 h5 => hC w1 h4 fun b c v hv => h5 b c v (h3 b c v hv)).1 rfl) (hs o β a w hr)
    have hrest2 := swSch_sound ho hsel hG hf o' (n + 1) listed (i :: seen) s β a w hoth hs' hr C hC
    refine ⟨fun e => ⟨hC w ⟨_, _, hr.keep⟩ fun b c v hv => (hr.heap.ro b c v hv).1, fun h0 => ?_, fun j hj => ?_⟩, fun m hm j hj hns => ?_⟩
    ·
      rw [h0] at hrd
      simp at hrd
    · by_cases e' : j = i
      · subst e'; exact hthis
      · exact hrest2.2 n rfl j hj ⟨by simp, by simp [e', e]⟩
    · obtain rfl : m = n := by omega
      by_cases e' : j = i
      · subst e'; exact hthis
      · exact hrest2.2 m rfl j hj ⟨by simp, by simp [e', hns.2]⟩
def roL (ws : List Nat) : Nat → List (Option SK) → List (Option SK)
  | _, [] => []
  | i, none :: L => none :: roL ws (i + 1) L
  | i, some K :: L => (if ws.contains i then some K else match K with
      | .row B => some (.row { B with own := false })
      | .it _ _ => none) :: roL ws (i + 1) L
def backL (ws : List Nat) : Nat → List (Option SK) → List (Option SK) → List (Option SK)
  | _, [], L' => L'
  | _, _ :: _, [] => []
  | i, none :: L, k :: L' => k :: backL ws (i + 1) L L'
  | i, some K :: L, k :: L' => (if ws.contains i then k else some K) :: backL ws (i + 1) L L'
def St.ro (ws : List Nat) (s : St) : St := { s with base := s.L.length, L := roL ws 0 s.L }
def St.back (ws : List Nat) (s s' : St) : St := { s' with base := s.base, L := backL ws 0 s.L s'.L }
theorem roL_length (ws : List Nat) : ∀ (i : Nat) (L : List (Option SK)), (roL ws i L).length = L.length
  | _, [] => rfl
  | i, none :: L => by simp [roL, roL_length ws (i + 1) L]
  | i, some K :: L => by simp [roL, roL_length ws (i + 1) L]
theorem backL_length (ws : List Nat) : ∀ (i : Nat) (L L' : List (Option SK)), L.length ≤ L'.length → (backL ws i L L').length = L'.length
  | _, [], _, _ => rfl
  | _, _ :: _, [], h => by simp at h
  | i, none :: L, _ :: L', h => by simp [backL, backL_length ws (i + 1) L L' (by simpa using h)]
  | i, some _ :: L, _ :: L', h => by simp [backL, backL_length ws (i + 1) L L' (by simpa using h)]
theorem roL_get (ws : List Nat) : ∀ (i : Nat) (L : List (Option SK)) (j : Nat) (K : SK), (roL ws i L)[j]? = some (some K) → ∃ K0, L[j]? = some (some K0) ∧
    ((ws.contains (i + j) = true ∧ K = K0) ∨ (ws.contains (i + j) = false ∧ K.own = false ∧ ∃ B, K0 = .row B ∧ K = .row { B with own := false }))
  | _, [], j, K, h => by simp [roL] at h
  | i, none :: L, 0, K, h => by simp [roL] at h
  | i, none :: L, j + 1, K, h => by
    have := roL_get ws (i + 1) L j K (by simpa [roL] using h)
    simpa only [List.getElem?_cons_succ, Nat.add_assoc, Nat.add_comm 1 j] using this
  | i, some K0 :: L, 0, K, h => by
    simp only [roL, List.getElem?_cons_zero, Option.some.injEq] at h
    refine ⟨K0, rfl, ?_⟩
    rw [Nat.add_zero]
    split at h
    · rename_i h1; cases h; exact .inl ⟨h1, rfl⟩
    · rename_i h1
      cases K0 with
      | row B => cases h; exact .inr ⟨by simpa using h1, rfl, B, rfl, rfl⟩
      | it s p => cases h
  | i, some K0 :: L, j + 1, K, h => by
    have := roL_get ws (i + 1) L j K (by simpa [roL] using h)
    simpa only [List.getElem?_cons_succ, Nat.add_assoc, Nat.add_comm 1 j] using this
theorem backL_get (ws : List Nat) : ∀ (i : Nat) (L L' : List (Option SK)) (j : Nat) (K : SK), (backL ws i L L')[j]? = some (some K) →
    (ws.contains (i + j) = false ∧ L[j]? = some (some K)) ∨ (L'[j]? = some (some K) ∧ (ws.contains (i + j) = true ∨ ∀ K0, L[j]? ≠ some (some K0)))
  | _, [], L', j, K, h => .inr ⟨h, .inr fun K0 h => by simp at h⟩
  | _, _ :: _, [], j, K, h => by simp [backL] at h
  | i, none :: L, k :: L', 0, K, h => .inr ⟨by simpa [backL] using h, .inr fun K0 h => by simp at h⟩
  | i, none :: L, k :: L', j + 1, K, h => by
    have := backL_get ws (i + 1) L L' j K (by simpa [backL] using h)
    simpa only [List.getElem?_cons_succ, Nat.add_assoc, Nat.add_comm 1 j] using this
  | i, some K0 :: L, k :: L', 0, K, h => by
    simp only [backL, List.getElem?_cons_zero, Option.some.injEq] at h
    rw [Nat.add_zero]
    split at h
    · rename_i h1; exact .inr ⟨by rw [h]; rfl, .inl h1⟩
    · rename_i h1; exact .inl ⟨by simpa using h1, by rw [h]; rfl⟩
  | i, some K0 :: L, k :: L', j + 1, K, h => by
    have := backL_get ws (i + 1) L L' j K (by simpa [backL] using h)
    simpa only [List.getElem?_cons_succ, Nat.add_assoc, Nat.add_comm 1 j] using this
theorem relK_ro {w : World} {β : Bt} {p : Pl} {B : SB} (h : RelK w β p (.row B)) : RelK w β p (.row { B with own := false }) :=
  ⟨h.1, h.2.1, h.2.2.1, fun e => nomatch e⟩
theorem RR.ro {o : Org} {β : Bt} {s : St} {a : Act} {w : World} (ws : List Nat) (h : RR o β s a w) : RR ⟨w, β, roL ws 0 s.L, o.defs⟩ β (s.ro ws) a w := by
  have hL : ∀ (j : Nat) (K : SK), (roL ws 0 s.L)[j]? = some (some K) → ∃ K0, s.L[j]? = some (some K0) ∧ (K.own = true → K0.own = true) ∧ ∀ p, RelK w β p K0 → RelK w β p K := by
    intro j K hj
    obtain ⟨K0, h1, h2⟩ := roL_get ws 0 s.L j K hj
    rcases h2 with ⟨_, rfl⟩ | ⟨_, h3, B, rfl, rfl⟩
    · exact ⟨K, h1, id, fun _ r => r⟩
    · exact ⟨.row B, h1, fun e => absurd (h3.symm.trans e) (by simp), fun _ r => relK_ro r⟩
  refine ⟨h.size, h.env, ⟨fun j K hj => ?_, fun j K p hj hp hc => ?_, fun i j K K' p q hij hi hj hp hq ho hc hc' => ?_, fun i hi => ?_, h.heap.ro, fun j K p b c v hj ho hp hc hv => ?_⟩, Keep.refl _ _ _, ?_, ?_, fun _ _ => rfl, h.defers⟩
  · obtain ⟨K0, h1, _, h3⟩ := hL j K hj
    obtain ⟨p, hp, rk⟩ := h.heap.blk j K0 h1
    exact ⟨p, hp, h3 p rk⟩
  · obtain ⟨K0, h1, _, _⟩ := hL j K hj
    exact h.heap.lt j K0 p h1 hp hc
  · obtain ⟨K0, h1, h2, _⟩ := hL i K hi
    obtain ⟨K1, g1, g2, _⟩ := hL j K' hj
    exact h.heap.sep i j K0 K1 p q hij h1 g1 hp hq (h2 ho) hc hc'
  · exact h.heap.out i (by have : (roL ws 0 s.L).length ≤ i := hi; rwa [roL_length] at this)
  · obtain ⟨K0, h1, h2, _⟩ := hL j K hj
    exact h.heap.rosep j K0 p b c v h1 (h2 ho) hp hc hv
  · exact (roL_length ws 0 s.L).symm
  · show s.L.length ≤ (roL ws 0 s.L).length
    rw [roL_length]
    exact Nat.le_refl _
theorem RR.back {o : Org} {β β' : Bt} {s s' : St} {a a' : Act} {w w' : World} (ws : List Nat) (h : RR o β s a w) (k : RR ⟨w, β, roL ws 0 s.L, o.defs⟩ β' s' a' w') : RR o β' (s.back ws s') a' w' := by
  have hb' : s'.base = s.L.length := by rw [k.base]; exact roL_length ws 0 s.L
  have hlen : s.L.length ≤ s'.L.length := by rw [← hb']; exact k.blen
  have hsame : ∀ i, i < s.L.length → β' i = β i := fun i hi => k.same i (by rw [hb']; exact hi)
  have hle : β.le β' := by
    refine ⟨fun i p hi => ?_, k.keep.mle⟩
    rcases Nat.lt_or_ge i s.L.length with h1 | h1
    · rw [hsame i h1]; exact hi
    · rw [h.heap.out i h1] at hi; cases hi
  have hown : ∀ (j : Nat) (K : SK), (roL ws 0 s.L)[j]? = some (some K) → ∃ K0, s.L[j]? = some (some K0) ∧ (K.own = true → K0.own = true ∧ ws.contains j = true) := by
    intro j K hj
    obtain ⟨K0, h1, h2⟩ := roL_get ws 0 s.L j K hj
    rw [Nat.zero_add] at h2
    rcases h2 with ⟨h3, rfl⟩ | ⟨h4, h3, B, rfl, rfl⟩
    · exact ⟨K, h1, fun e => ⟨e, h3⟩⟩
    · exact ⟨.row B, h1, fun e => by rw [h3] at e; cases e⟩
  have hold : ∀ (j : Nat) (K : SK) p, s.L[j]? = some (some K) → ws.contains j = false → β j = some p → 0 < p.cap → w'.heap[p.blk]? = w.heap[p.blk]? := by
    intro j K p hj hw hp hc
    refine k.keep.old _ (h.heap.lt j K p hj hp hc) fun i K' q hi ho hq hqc e => ?_
    obtain ⟨K0, h1, h2⟩ := hown i K' hi
    obtain ⟨h3, h4⟩ := h2 ho
    have hne : i ≠ j := fun e => by subst e; rw [hw] at h4; cases h4
    exact h.heap.sep i j K0 K q p hne h1 hj hq hp h3 hqc hc e
  have hmem : ∀ (j : Nat) (K : SK), (backL ws 0 s.L s'.L)[j]? = some (some K) → (ws.contains j = false ∧ s.L[j]? = some (some K)) ∨ (s'.L[j]? = some (some K) ∧ (ws.contains j = true ∨ ∀ K0, s.L[j]? ≠ some (some K0))) := by
    intro j K hj
    have := backL_get ws 0 s.L s'.L j K hj
    rwa [Nat.zero_add] at this
  have mixed : ∀ (i j : Nat) (K K' : SK) p q, i ≠ j → (ws.contains i = false ∧ s.L[i]? = some (some K)) → (s'.L[j]? = some (some K') ∧ (ws.contains j = true ∨ ∀ K0, s.L[j]? ≠ some (some K0))) → β' i = some p → β' j = some q → (K.own = true ∨ K'.own = true) → 0 < p.cap → 0 < q.cap → p.blk ≠ q.blk := by
    rintro i j K K' p q hij ⟨h1, h2⟩ ⟨h3, h4⟩ hp hq ho hc hc' e
    have hi : i < s.L.length := (List.getElem?_eq_some_iff.1 h2).1
    rw [hsame i hi] at hp
    have hlt := h.heap.lt i K p h2 hp hc
    rcases k.keep.new j K' q h3 hq hc' with h5 | ⟨m, K1, r, m1, m2, m3, m4, m5, m6⟩
    · have h5' : w.heap.size ≤ q.blk := h5
      omega
    · obtain ⟨K0, n1, n2⟩ := hown m K1 m1
      have m2' : β m = some r := m2
      rcases m6 with rfl | h7
      · rcases h4 with h4 | h4
        · rcases ho with ho | ho
          · exact h.heap.sep i m K K0 p r hij h2 n1 hp m2' ho hc m3 (e.trans m4.symm)
          · have h8 := (n2 (m5 ho)).1
            exact h.heap.sep m i K0 K r p (Ne.symm hij) n1 h2 m2' hp h8 m3 hc (m4.trans e.symm)
        · exact absurd n1 (h4 K0)
      · obtain ⟨h8, h9⟩ := n2 h7
        have hne : m ≠ i := fun e => by subst e; rw [h1] at h9; cases h9
        exact h.heap.sep m i K0 K r p hne n1 h2 m2' hp h8 m3 hc (m4.trans e.symm)
  refine ⟨k.size, k.env, ⟨fun j K hj => ?_, fun j K p hj hp hc => ?_, fun i j K K' p q hij hi hj hp hq ho hc hc' => ?_, fun i hi => ?_, k.heap.ro, fun j K p b c v hj ho hp hc hv e => ?_⟩, h.keep.trans ⟨k.keep.os, k.keep.tape, k.keep.output, k.keep.size, fun g hg hn => ?_, fun j K p hj hp hc => ?_, k.keep.mle, fun b c v hv => ?_⟩, h.base, ?_, fun i hi => ?_, k.defers⟩
  · rcases hmem j K hj with ⟨h1, h2⟩ | ⟨h1, _⟩
    · obtain ⟨p, hp, rk⟩ := h.heap.blk j K h2
      refine ⟨p, hle.b j p hp, ?_⟩
      rcases Nat.eq_zero_or_pos p.cap with hc | hc
      · exact relK_cap0 hc rk
      · exact (rk.mono hle).congr (hold j K p h2 h1 hp hc)
    · exact k.heap.blk j K h1
  · rcases hmem j K hj with ⟨h1, h2⟩ | ⟨h1, _⟩
    · rw [hsame j (List.getElem?_eq_some_iff.1 h2).1] at hp
      exact Nat.lt_of_lt_of_le (h.heap.lt j K p h2 hp hc) k.keep.size
    · exact k.heap.lt j K p h1 hp hc
  · rcases hmem i K hi with hi' | hi'
    · rcases hmem j K' hj with hj' | hj'
      · rw [hsame i (List.getElem?_eq_some_iff.1 hi'.2).1] at hp
        rw [hsame j (List.getElem?_eq_some_iff.1 hj'.2).1] at hq
        exact h.heap.sep i j K K' p q hij hi'.2 hj'.2 hp hq ho hc hc'
      · exact mixed i j K K' p q hij hi' hj' hp hq (.inl ho) hc hc'
    · rcases hmem j K' hj with hj' | hj'
      · exact fun e => mixed j i K' K q p (Ne.symm hij) hj' hi' hq hp (.inr ho) hc' hc e.symm
      · exact k.heap.sep i j K K' p q hij hi'.1 hj'.1 hp hq ho hc hc'
  · exact k.heap.out i (by have : (backL ws 0 s.L s'.L).length ≤ i := hi; rwa [backL_length ws 0 s.L s'.L hlen] at this)
  ·
    rcases hmem j K hj with ⟨h1, h2⟩ | ⟨h1, _⟩
    · rw [hsame j (List.getElem?_eq_some_iff.1 h2).1] at hp
      have hlt := h.heap.lt j K p h2 hp hc
      rcases k.keep.mem b c v hv with h3 | h3 | ⟨i, K1, q, m1, m2, m3, m4, m5⟩
      · exact h.heap.rosep j K p b c v h2 ho hp hc h3 e
      · have h3' : w.heap.size ≤ b := h3
        omega
      · obtain ⟨K0, n1, n2⟩ := hown i K1 m1
        obtain ⟨n3, n4⟩ := n2 m2
        have hne : i ≠ j := fun e => by subst e; rw [h1] at n4; cases n4
        exact h.heap.sep i j K0 K q p hne n1 h2 m3 hp n3 m4 hc (m5.trans e.symm)
    · exact k.heap.rosep j K p b c v h1 ho hp hc hv e
  · refine k.keep.old g hg fun i K q hi ho hq hqc => ?_
    obtain ⟨K0, h1, h2⟩ := hown i K hi
    exact hn i K0 q h1 (h2 ho).1 hq hqc
  · rcases hmem j K hj with ⟨h1, h2⟩ | ⟨h1, _⟩
    · rw [hsame j (List.getElem?_eq_some_iff.1 h2).1] at hp
      exact .inr ⟨j, K, p, h2, hp, hc, rfl, id, .inl rfl⟩
    · rcases k.keep.new j K p h1 hp hc with h5 | ⟨m, K1, r, m1, m2, m3, m4, m5, m6⟩
      · exact .inl h5
      · obtain ⟨K0, n1, n2⟩ := hown m K1 m1
        refine .inr ⟨m, K0, r, n1, m2, m3, m4, fun e => (n2 (m5 e)).1, ?_⟩
        rcases m6 with h6 | h6
        · exact .inl h6
        · exact .inr (n2 h6).1
  · rcases k.keep.mem b c v hv with h3 | h3 | ⟨i, K1, q, m1, m2, m3, m4, m5⟩
    · exact .inl h3
    · exact .inr (.inl h3)
    · obtain ⟨K0, n1, n2⟩ := hown i K1 m1
      exact .inr (.inr ⟨i, K0, q, n1, (n2 m2).1, m3, m4, m5⟩)
  · show s.base ≤ (backL ws 0 s.L s'.L).length
    rw [backL_length ws 0 s.L s'.L hlen]
    exact Nat.le_trans h.blen hlen
  · have hi' : i < s.base := hi
    rw [hsame i (Nat.lt_of_lt_of_le hi' h.blen)]
    exact h.same i hi'
def roGet (L : List (Option SK)) (b : Nat) : Option SK :=
  match getL L b with
  | some K => if K.own = true then none else some K
  | none => none
theorem Sem.draw {QQ : SX → St → Prop} {K : List It} {s : St} {id : Nat} (hm : P.follows .mixedOrders = true) (t : Sch) (ws : List Nat)
    (hok : (Region.noSelect ops && t.ok .any ops ops.size (Array.replicate ops.size false) []) = true)
    (h : swSch P ops.toList (roGet (roL ws 0 s.L)) (fun s' => Sem P QQ K (s.back ws s')) t (s.ro ws)) : Sem P QQ (.code (.region id ops true) :: K) s := by
  intro o β a w hr
  show (Code.region id ops true).wp P (KQ P o QQ K) a w
  simp only [Bool.and_eq_true] at hok
  have hr1 : RR o β s a { w with drawn := w.drawn + 1 } :=
    ⟨hr.size, hr.env, RelH.same (w := w) rfl hr.heap, hr.keep.trans (Keep.same rfl rfl rfl rfl), hr.base, hr.blen, hr.same, hr.defers⟩
  have hro := hr1.ro ws
  have hany := (swSch_sound (md := .any) (ops := ops) (Q := fun a w => KQ P o QQ K .normal a w) (o := ⟨{ w with drawn := w.drawn + 1 }, β, roL ws 0 s.L, o.defs⟩) hro.heap hok.1 (G := roGet (roL ws 0 s.L)) (fun b K hb => by
    unfold roGet at hb
    split at hb
    · rename_i K' hK
      split at hb
      · cases hb
      · rename_i hn
        cases hb
        exact ⟨getL_some.1 hK, by simpa using hn⟩
    · cases hb) (f := fun s' => Sem P QQ K (s.back ws s')) (fun s' β' a' w' hs' hr' => hs' o β' a' w' (hr1.back ws hr')) t ops.size _ [] (s.ro ws) β a _ hok.2 h hro (fun _ => True) (fun _ _ _ => trivial)).1 rfl
  exact wp_mono (wp_region_any hm (anyTo_wp _ _ _ _ hany)) fun e a' w' ⟨he, hq⟩ => by subst he; exact hq
end
end Go.SL
