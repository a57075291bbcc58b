/- The twentieth part of the layer: a nil slice within a block, told as an empty one of its own; a call that turns blocks. -/
import Derived.Test.YtheodenjjaoncaaSlT
set_option linter.unusedVariables false
set_option linter.unusedSimpArgs false
namespace Go.SL
open Go
section
variable {P : Program} {Q : SX → St → Prop} {K : List It} {s : St}
theorem set_some {L : List (Option SK)} {b : Nat} {K' : SK} {i : Nat} {K1 : SK} (h : (L.set b (some K'))[i]? = some (some K1)) : (i = b ∧ K1 = K') ∨ (i ≠ b ∧ L[i]? = some (some K1)) := by
  by_cases e : b = i
  · subst e
    rcases Nat.lt_or_ge b L.length with hlt | hge
    · rw [List.getElem?_set_self hlt] at h
      exact .inl ⟨rfl, by simpa using h.symm⟩
    · rw [List.getElem?_eq_none (by simpa using hge)] at h
      cases h
  · rw [List.getElem?_set_ne e] at h
    exact .inr ⟨fun h => e h.symm, h⟩
theorem relH_set {w : World} {β : Bt} {L : List (Option SK)} {b : Nat} {K K' : SK} (h : RelH w β L) (hb : getL L b = some K) (ho : K'.own = true → K.own = true) (hk : ∀ p, β b = some p → RelK w β p K') : RelH w β (L.set b (some K')) := by
  have hb' := getL_some.1 hb
  have was : ∀ (i : Nat) (K1 : SK), (L.set b (some K'))[i]? = some (some K1) → ∃ K0 : SK, L[i]? = some (some K0) ∧ (K1.own = true → K0.own = true) := by
    intro i K1 hi
    rcases set_some hi with ⟨rfl, rfl⟩ | ⟨_, h2⟩
    · exact ⟨K, hb', ho⟩
    · exact ⟨K1, h2, id⟩
  refine ⟨fun i K1 hi => ?_, fun i K1 p hi hp hc => ?_, fun i j K1 K2 p q hij hi hj hp hq ho' hc hc' => ?_, fun i hi => ?_, h.ro, fun i K1 p c v x hi ho' hp hc hv => ?_⟩
  · rcases set_some hi with ⟨rfl, rfl⟩ | ⟨_, h2⟩
    · obtain ⟨p, hp, _⟩ := h.blk i K hb'
      exact ⟨p, hp, hk p hp⟩
    · exact h.blk i K1 h2
  · obtain ⟨K0, h0, _⟩ := was i K1 hi
    exact h.lt i K0 p h0 hp hc
  · obtain ⟨K0, h0, o0⟩ := was i K1 hi
    obtain ⟨K3, h3, _⟩ := was j K2 hj
    exact h.sep i j K0 K3 p q hij h0 h3 hp hq (o0 ho') hc hc'
  · exact h.out i (by simpa using hi)
  · obtain ⟨K0, h0, o0⟩ := was i K1 hi
    exact h.rosep i K0 p c v x h0 (o0 ho') hp hc hv
theorem relB_ghost {w : World} {β : Bt} {p : Pl} {z k N zz : Nat} {ty : TypeId} {el : Nat → List SV} (hN : β N = some ⟨0, 0, zz, 0⟩) (hk : (el 0)[k]? = some (.v (.slice none 0 0))) (h : RelB w β p ⟨z, 1, true, ty, el⟩) : RelB w β p ⟨z, 1, true, ty, fun _ => (el 0).set k (.slc N 0 0)⟩ := by
  obtain ⟨r1, r2, r3, r4⟩ := h
  refine ⟨r1, r2, fun e he => ?_, r4⟩
  obtain rfl : e = 0 := by
    have : e < 1 := he
    omega
  obtain ⟨h1, h2⟩ := r3 0 he
  refine ⟨by simpa using h1, fun j x hx => ?_⟩
  have hx : ((el 0).set k (.slc N 0 0))[j]? = some x := hx
  by_cases e : k = j
  · subst e
    have hlt : k < (el 0).length := by
      rcases Nat.lt_or_ge k (el 0).length with h | h
      · exact h
      · rw [List.getElem?_eq_none h] at hk; cases hk
    rw [List.getElem?_set_self hlt] at hx
    cases hx
    obtain ⟨y, y1, y2, y3⟩ := h2 k _ hk
    exact ⟨y, y1, y2, _, none, 0, hN, y3, Nat.le_refl _, .inl rfl⟩
  · rw [List.getElem?_set_ne e] at hx
    exact h2 j x hx
/-- A nil slice in a struct is an empty slice of a block of no room. -/
theorem Lent.ghostB (b k z : Nat) (ty : TypeId) {zb : Nat} {tyb : TypeId} {el : Nat → List SV} (hb : getL s.L b = some (.row ⟨zb, 1, true, tyb, el⟩)) (hk : (el 0)[k]? = some (.v (.slice none 0 0))) :
    Lent P s ⟨s.sz, s.base, s.env, s.L.set b (some (.row ⟨zb, 1, true, tyb, fun _ => (el 0).set k (.slc s.L.length 0 0)⟩)) ++ [some (.row ⟨z, 0, true, ty, fun _ => []⟩)]⟩ := by
  intro o β a w hr
  have hN := hr.heap.out s.L.length (Nat.le_refl _)
  have hle : β.le (β.put s.L.length ⟨0, 0, z, 0⟩) := Bt.le_put _ hN
  have hlt : b < s.L.length := by
    have := getL_some.1 hb
    rcases Nat.lt_or_ge b s.L.length with h | h
    · exact h
    · rw [List.getElem?_eq_none h] at this; cases this
  have hg0 : getL (s.L ++ [some (.row ⟨z, 0, true, ty, fun _ => []⟩)]) b = some (.row ⟨zb, 1, true, tyb, el⟩) := by
    rw [getL_some, List.getElem?_append_left hlt]
    exact getL_some.1 hb
  have hh := relH_ghost hr.heap z ty true fun _ => []
  have hh2 := relH_set (K' := .row ⟨zb, 1, true, tyb, fun _ => (el 0).set k (.slc s.L.length 0 0)⟩) hh hg0 (fun _ => rfl) (fun p hp => by
    obtain ⟨p', hp', rk⟩ := hh.blk b _ (getL_some.1 hg0)
    rw [hp] at hp'
    cases hp'
    exact relB_ghost (Bt.put_same ..) hk rk)
  rw [List.set_append_left _ _ hlt] at hh2
  refine ⟨β.put s.L.length ⟨0, 0, z, 0⟩, hr.size, fun n => (hr.env n).mono hle, hh2, hr.keep.trans ⟨rfl, rfl, rfl, Nat.le_refl _, fun _ _ _ => rfl, fun i K1 p hi hp hc => ?_, fun _ _ _ h => h, fun _ _ _ h => .inl h⟩, hr.base, ?_, fun i hi => ?_, hr.defers⟩
  · rcases Nat.lt_or_ge i s.L.length with h1 | h1
    · have hi : (s.L.set b (some (.row ⟨zb, 1, true, tyb, fun _ => (el 0).set k (.slc s.L.length 0 0)⟩)) ++ [some (SK.row ⟨z, 0, true, ty, fun _ => []⟩)])[i]? = some (some K1) := hi
      rw [List.getElem?_append_left (by simpa using h1)] at hi
      simp only [Bt.put, Nat.ne_of_lt h1, if_false] at hp
      rcases set_some hi with ⟨rfl, rfl⟩ | ⟨_, h2⟩
      · exact .inr ⟨i, _, p, getL_some.1 hb, hp, hc, rfl, fun _ => rfl, .inl rfl⟩
      · exact .inr ⟨i, K1, p, h2, hp, hc, rfl, id, .inl rfl⟩
    · have hi : (s.L.set b (some (.row ⟨zb, 1, true, tyb, fun _ => (el 0).set k (.slc s.L.length 0 0)⟩)) ++ [some (SK.row ⟨z, 0, true, ty, fun _ => []⟩)])[i]? = some (some K1) := hi
      rw [List.getElem?_append_right (by simpa using h1)] at hi
      obtain ⟨e1, _⟩ := single_get hi
      simp only [List.length_set] at e1
      have : i = s.L.length := by omega
      subst this
      rw [Bt.put_same] at hp
      cases hp
      exact absurd hc (Nat.lt_irrefl _)
  · show s.base ≤ (s.L.set b _ ++ [_]).length
    rw [List.length_append, List.length_set]
    exact Nat.le_trans hr.blen (Nat.le_add_right _ _)
  · have hi' : i < s.base := hi
    have : i ≠ s.L.length := by have := hr.blen; omega
    simp only [Bt.put, this, if_false]
    exact hr.same i hi'
theorem Lent.sem {s1 : St} (h : Lent P s s1) (k : Sem P Q K s1) : Sem P Q K s := fun o β a w hr => let ⟨β1, h1⟩ := h o β a w hr; k o β1 a w h1
theorem Lent.ops {all rest : List Oper} {s1 : St} (h : Lent P s s1) (k : SemOps P Q all rest K s1) : SemOps P Q all rest K s := fun o β a w hr => let ⟨β1, h1⟩ := h o β a w hr; k o β1 a w h1
/-- A call of a function by its contract; the arguments may say more than the contract asks. -/
theorem SemOps.callE {all rest : List Oper} {op : Oper} {fo : Operand} {argos : Array Operand} {ats : Array TypeId} {f : FuncId} {fi ca : List SV}
    (hop : op.op = .call ⟨.value fo, argos, ats⟩) (hg : op.guard = none) (hfv : seval s.env fo = .fn (.func f) fi ca) (hcal : Cal P f)
    (l : List Nat) {ac : List SV} {Lc : List (Option SK)} {R : SE → List (Option SK) → Prop} (hc : SCall P f ac Lc R)
    (hargs : EntL nofz (rho l s.L.length) ac (fi ++ argos.toList.map (seval s.env) ++ ca)) (hnd : l.Nodup) (hL : wkL nofz (rho l s.L.length) s.L l Lc) (hd : dstOk s op.dst)
    (next : ∀ r L', R (.ret r) L' → SemOps P Q all rest K ((s.after l Lc L').put op.dst (r.ren (rho l s.L.length))))
    (pan : ∀ x L', R (.pan x) L' → Q (.panic (x.ren (rho l s.L.length))) (s.after l Lc L')) : SemOps P Q all (op :: rest) K s := by
  obtain ⟨fn, hfn, hbody, hname⟩ := hcal
  intro o β a w hr
  unfold wpList
  rw [if_pos (by simp [Region.wanted, hg])]
  left
  have hf := eval_rel hr fo
  rw [hfv] at hf
  obtain ⟨c1, c2, hfe, hfi, hca⟩ := hf
  have hrun : (execOp a.eval op).run P w = .ok (.enter f (c1 ++ argos.map a.eval ++ c2)) w := by
    have hn : fn.body.isNone = false := by cases hb : fn.body <;> simp [hb] at hbody ⊢
    simp only [execOp, hop, resolve, Deferred.ofValue, hfe, Sem.run_bind, Sem.run_pure, Result.andThen_ok, invoke, callFunc, run_program, hfn, hname, hn, Bool.false_eq_true, if_false]
  unfold Oper.wp
  rw [hrun]
  have hrelA : RelL β (fi ++ argos.toList.map (seval s.env) ++ ca) (c1 ++ argos.map a.eval ++ c2).toList := by
    have h1 : RelL β (argos.toList.map (seval s.env)) (argos.toList.map a.eval) := relL_map (fun x => eval_rel hr x) _
    have := (hfi.append h1).append hca
    simpa using this
  refine (hc w _ _ (hr.heap.view hnd hL) (EntL.rel (Ren.of_ren (w := w) _) _ _ _ hargs hrelA)).mono fun e w' ⟨β', L', r, hR, hrel, hh, hk, hlen', hsame⟩ => ?_
  obtain ⟨β2, hr2, hren, _⟩ := hr.called hnd hL hh hk hlen' hsame
  cases r with
  | ret x =>
    obtain ⟨v, rfl, hv⟩ := hrel
    exact next x L' hR o β2 _ w' (hr2.put hd (RelV.ren hren x v hv))
  | pan x =>
    obtain ⟨v, rfl, hv⟩ := hrel
    exact panic_KQ K a w' ⟨β2, _, .panic (x.ren (rho l s.L.length)), ⟨v, rfl, RelV.ren hren x v hv⟩, pan x L' hR, hr2⟩
theorem OpSem.callE {op : Oper} {fo : Operand} {argos : Array Operand} {ats : Array TypeId} {f : FuncId} {fi ca : List SV} {N : St → Prop}
    (hop : op.op = .call ⟨.value fo, argos, ats⟩) (hfv : seval s.env fo = .fn (.func f) fi ca) (hcal : Cal P f)
    (l : List Nat) {ac : List SV} {Lc : List (Option SK)} {R : SE → List (Option SK) → Prop} (hc : SCall P f ac Lc R)
    (hargs : EntL nofz (rho l s.L.length) ac (fi ++ argos.toList.map (seval s.env) ++ ca)) (hnd : l.Nodup) (hL : wkL nofz (rho l s.L.length) s.L l Lc) (hd : dstOk s op.dst)
    (next : ∀ r L', R (.ret r) L' → N ((s.after l Lc L').put op.dst (r.ren (rho l s.L.length))))
    (pan : ∀ x L', ¬ R (.pan x) L') : OpSem P op N s := by
  obtain ⟨fn, hfn, hbody, hname⟩ := hcal
  intro o β a w hr
  have hf := eval_rel hr fo
  rw [hfv] at hf
  obtain ⟨c1, c2, hfe, hfi, hca⟩ := hf
  have hrun : (execOp a.eval op).run P w = .ok (.enter f (c1 ++ argos.map a.eval ++ c2)) w := by
    have hn : fn.body.isNone = false := by cases hb : fn.body <;> simp [hb] at hbody ⊢
    simp only [execOp, hop, resolve, Deferred.ofValue, hfe, Sem.run_bind, Sem.run_pure, Result.andThen_ok, invoke, callFunc, run_program, hfn, hname, hn, Bool.false_eq_true, if_false]
  unfold stepTo
  rw [hrun]
  have hrelA : RelL β (fi ++ argos.toList.map (seval s.env) ++ ca) (c1 ++ argos.map a.eval ++ c2).toList := by
    have h1 : RelL β (argos.toList.map (seval s.env)) (argos.toList.map a.eval) := relL_map (fun x => eval_rel hr x) _
    have := (hfi.append h1).append hca
    simpa using this
  refine (hc w _ _ (hr.heap.view hnd hL) (EntL.rel (Ren.of_ren (w := w) _) _ _ _ hargs hrelA)).mono fun e w' ⟨β', L', r, hR, hrel, hh, hk, hlen', hsame⟩ => ?_
  obtain ⟨β2, hr2, hren, hle2⟩ := hr.called hnd hL hh hk hlen' hsame
  cases r with
  | ret x =>
    obtain ⟨v, rfl, hv⟩ := hrel
    exact ⟨v, rfl, β2, _, next x L' hR, hr2.put hd (RelV.ren hren x v hv), hle2.m⟩
  | pan x => exact (pan x L' hR).elim
/-- A call that answers this and leaves its blocks so. -/
theorem SemOps.callw {all rest : List Oper} {op : Oper} {fo : Operand} {argos : Array Operand} {ats : Array TypeId} {f : FuncId} {x : SV} {ac : List SV} {Lc L1 : List (Option SK)} (l : List Nat)
    (hcal : Cal P f) (hc : SCall P f ac Lc fun r L' => r = .ret x ∧ L' = L1) (hop : op.op = .call ⟨.value fo, argos, ats⟩) (hg : op.guard = none) (hfv : seval s.env fo = .fn (.func f) [] [])
    (hargs : EntL nofz (rho l s.L.length) ac (argos.toList.map (seval s.env))) (hnd : nodupN l = true) (hL : wkL nofz (rho l s.L.length) s.L l Lc)
    (hd : dstOk s op.dst) (next : SemOps P Q all rest K ((s.after l Lc L1).put op.dst (x.ren (rho l s.L.length)))) : SemOps P Q all (op :: rest) K s := by
  refine SemOps.callE hop hg hfv hcal l hc (by simpa using hargs) (nodupN_spec hnd) hL hd (fun r L' h => ?_) (fun x L' h => nomatch h.1)
  obtain ⟨h1, rfl⟩ := h
  cases h1
  exact next
theorem OpSem.callw {op : Oper} {fo : Operand} {argos : Array Operand} {ats : Array TypeId} {f : FuncId} {x : SV} {N : St → Prop} {ac : List SV} {Lc L1 : List (Option SK)} (l : List Nat)
    (hcal : Cal P f) (hc : SCall P f ac Lc fun r L' => r = .ret x ∧ L' = L1) (hop : op.op = .call ⟨.value fo, argos, ats⟩) (hfv : seval s.env fo = .fn (.func f) [] [])
    (hargs : EntL nofz (rho l s.L.length) ac (argos.toList.map (seval s.env))) (hnd : nodupN l = true) (hL : wkL nofz (rho l s.L.length) s.L l Lc)
    (hd : dstOk s op.dst) (next : N ((s.after l Lc L1).put op.dst (x.ren (rho l s.L.length)))) : OpSem P op N s := by
  refine OpSem.callE hop hfv hcal l hc (by simpa using hargs) (nodupN_spec hnd) hL hd (fun r L' h => ?_) (fun x L' h => nomatch h.1)
  obtain ⟨h1, rfl⟩ := h
  cases h1
  exact next
theorem SKren_row (ρ : Nat → Nat) (z n : Nat) (own : Bool) (ty : TypeId) (el : Nat → List SV) : SK.ren ρ (.row ⟨z, n, own, ty, el⟩) = .row ⟨z, n, own, ty, fun e => SV.renL ρ (el e)⟩ := rfl
theorem renL_flat (ρ : Nat → Nat) (l : List SV) (h : SV.flatL l = true) : SV.renL ρ l = l := SV.flatL_ren ρ l h
theorem ren_tup (ρ : Nat → Nat) (l : List SV) : SV.ren ρ (.tup l) = .tup (SV.renL ρ l) := rfl
theorem ren_flat (ρ : Nat → Nat) (x : SV) (h : x.flat = true) : x.ren ρ = x := SV.flat_ren ρ x h
end
end Go.SL
