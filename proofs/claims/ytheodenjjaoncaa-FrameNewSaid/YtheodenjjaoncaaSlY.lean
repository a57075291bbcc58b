/- Contracts of functions that the laws reach, on abstract values, and what they need: no conditions but those that each theorem states. -/
import Derived.Test.YtheodenjjaoncaaSlR
import Derived.Laws.MakeOwn
import Derived.Recover
set_option linter.unusedVariables false
set_option linter.unusedSimpArgs false
set_option linter.defProp false
namespace Go.SL
open Go
section
variable {P : Program} {s : St}
theorem SemOps.ofOp {all rest : List Oper} {K : List It} {Q : SX → St → Prop} {op : Oper} {fo : Operand} {argos : Array Operand} {ats : Array TypeId} (hop : op.op = .call ⟨.value fo, argos, ats⟩) (hg : op.guard = none) (h : OpSem P op (SemOps P Q all rest K) s) : SemOps P Q all (op :: rest) K s := by
  intro o β a w hr
  have := h o β a w hr
  unfold wpList
  rw [if_pos (by simp [Region.wanted, hg])]
  left
  unfold stepTo at this
  unfold Oper.wp
  generalize Sem.run P (execOp a.eval op) w = r at this ⊢
  split at this
  · obtain ⟨β', s', h1, h2, _⟩ := this
    exact h1 o β' _ _ h2
  · obtain ⟨β', s', h1, h2, _⟩ := this
    exact h1 o β' _ _ h2
  · rw [Oper.upon_enter]
    exact this.mono fun e w'' ⟨v, he, β', s', h1, h2, _⟩ => by
      subst he
      exact h1 o β' _ _ h2
  · exact this.elim
def Lent (P : Program) (s s1 : St) : Prop := ∀ o β a w, RR o β s a w → ∃ β1, RR o β1 s1 a w
theorem Lent.refl : Lent P s s := fun _ β _ _ h => ⟨β, h⟩
theorem Lent.frz {s0 : St} {d b e n m z : Nat} {ty : TypeId} {el : Nat → List SV} (h0 : Lent P s0 s) (rows : List (List SV)) (hd : lookup s.env d = .slc b e n) (hL : getL s.L b = some (.row ⟨z, m, true, ty, el⟩)) (hlen : rows.length = n) (hm : e + n ≤ m)
    (hel : ∀ (i : Nat) r, rows[i]? = some r → EntL nofz (fun i => i) r (el (e + i))) : Lent P s0 ⟨s.sz, s.base, (d, .rsl z rows) :: s.env, s.L.set b none⟩ :=
  fun o β a w hr => let ⟨β1, hr1⟩ := h0 o β a w hr
    let ⟨β', hr', _⟩ := hr1.frz rows hd hL hlen hm hel
    ⟨β', hr'⟩
end
end Go.SL
namespace Go.SL
open Go
section
variable {P : Program} {s : St}
end
def updE (n : Nat) (el : Nat → List SV) (e k : Nat) (l : List SV) : Nat → List SV := if n = 1 then fun _ => splice (el 0) k l else fun i => if i = e then splice (el e) k l else el i
theorem updE_at (n : Nat) (el : Nat → List SV) (e k : Nat) (l : List SV) (i : Nat) (he : e < n) (hi : i < n) : updE n el e k l i = if i = e then splice (el e) k l else el i := by
  unfold updE
  split
  · obtain rfl : e = 0 := by omega
    obtain rfl : i = 0 := by omega
    rw [if_pos rfl]
  · rfl
theorem sstore2_nint (z n : Nat) (ty : TypeId) (el : Nat → List SV) (kk : IntKind) (x : Int) (b e k : Nat) (h1 : k + 1 ≤ z) :
    sstore2 (some (.row ⟨z, n, true, ty, el⟩)) (some 1) (some [.v (.int kk x)]) b e k = some ⟨.any, ⟨some (b, some (.row ⟨z, n, true, ty, updE n el e k [.v (.int kk x)]⟩)), none⟩, e < n⟩ := by
  have h : SB.upd ⟨z, n, true, ty, el⟩ e k [.v (.int kk x)] = ⟨z, n, true, ty, updE n el e k [.v (.int kk x)]⟩ := by
    unfold SB.upd updE
    split <;> rfl
  simp only [sstore2, h]
  rw [if_pos ⟨h1, rfl, rfl, trivial⟩]
end Go.SL
namespace Go.SL
open Go
section
variable {P : Program} {Q : SX → St → Prop} {K : List It} {s : St}
theorem set_some {L : List (Option SK)} {b : Nat} {K' : SK} {i : Nat} {K1 : SK} (h : (L.set b (some K'))[i]? = some (some K1)) : (i = b ∧ K1 = K') ∨ (i ≠ b ∧ L[i]? = some (some K1)) := by
  by_cases e : b = i
  · subst e
    rcases Nat.lt_or_ge b L.length with hlt | hge
    · rw [List.getElem?_set_self hlt] at h
      exact .inl ⟨rfl, by simpa using h.symm⟩
    · rw [List.getElem?_eq_none (by simpa using hge)] at h
      cases h
  · rw [List.getElem?_set_ne e] at h
    exact .inr ⟨fun h => e h.symm, h⟩
theorem relH_set {w : World} {β : Bt} {L : List (Option SK)} {b : Nat} {K K' : SK} (h : RelH w β L) (hb : getL L b = some K) (ho : K'.own = true → K.own = true) (hk : ∀ p, β b = some p → RelK w β p K') : RelH w β (L.set b (some K')) := by
  have hb' := getL_some.1 hb
  have was : ∀ (i : Nat) (K1 : SK), (L.set b (some K'))[i]? = some (some K1) → ∃ K0 : SK, L[i]? = some (some K0) ∧ (K1.own = true → K0.own = true) := by
    intro i K1 hi
    rcases set_some hi with ⟨rfl, rfl⟩ | ⟨_, h2⟩
    · exact ⟨K, hb', ho⟩
    · exact ⟨K1, h2, id⟩
  refine ⟨fun i K1 hi => ?_, fun i K1 p hi hp hc => ?_, fun i j K1 K2 p q hij hi hj hp hq ho' hc hc' => ?_, fun i hi => ?_, h.ro, fun i K1 p c v x hi ho' hp hc hv => ?_⟩
  · rcases set_some hi with ⟨rfl, rfl⟩ | ⟨_, h2⟩
    · obtain ⟨p, hp, _⟩ := h.blk i K hb'
      exact ⟨p, hp, hk p hp⟩
    · exact h.blk i K1 h2
  · obtain ⟨K0, h0, _⟩ := was i K1 hi
    exact h.lt i K0 p h0 hp hc
  · obtain ⟨K0, h0, o0⟩ := was i K1 hi
    obtain ⟨K3, h3, _⟩ := was j K2 hj
    exact h.sep i j K0 K3 p q hij h0 h3 hp hq (o0 ho') hc hc'
  · exact h.out i (by simpa using hi)
  · obtain ⟨K0, h0, o0⟩ := was i K1 hi
    exact h.rosep i K0 p c v x h0 (o0 ho') hp hc hv
theorem relB_ghost {w : World} {β : Bt} {p : Pl} {z k N zz : Nat} {ty : TypeId} {el : Nat → List SV} (hN : β N = some ⟨0, 0, zz, 0⟩) (hk : (el 0)[k]? = some (.v (.slice none 0 0))) (h : RelB w β p ⟨z, 1, true, ty, el⟩) : RelB w β p ⟨z, 1, true, ty, fun _ => (el 0).set k (.slc N 0 0)⟩ := by
  obtain ⟨r1, r2, r3, r4⟩ := h
  refine ⟨r1, r2, fun e he => ?_, r4⟩
  obtain rfl : e = 0 := by
    have : e < 1 := he
    omega
  obtain ⟨h1, h2⟩ := r3 0 he
  refine ⟨by simpa using h1, fun j x hx => ?_⟩
  have hx : ((el 0).set k (.slc N 0 0))[j]? = some x := hx
  by_cases e : k = j
  · subst e
    have hlt : k < (el 0).length := by
      rcases Nat.lt_or_ge k (el 0).length with h | h
      · exact h
      · rw [List.getElem?_eq_none h] at hk; cases hk
    rw [List.getElem?_set_self hlt] at hx
    cases hx
    obtain ⟨y, y1, y2, y3⟩ := h2 k _ hk
    exact ⟨y, y1, y2, _, none, 0, hN, y3, Nat.le_refl _, .inl rfl⟩
  · rw [List.getElem?_set_ne e] at hx
    exact h2 j x hx
theorem Lent.ghostB (b k z : Nat) (ty : TypeId) {zb : Nat} {tyb : TypeId} {el : Nat → List SV} (hb : getL s.L b = some (.row ⟨zb, 1, true, tyb, el⟩)) (hk : (el 0)[k]? = some (.v (.slice none 0 0))) :
    Lent P s ⟨s.sz, s.base, s.env, s.L.set b (some (.row ⟨zb, 1, true, tyb, fun _ => (el 0).set k (.slc s.L.length 0 0)⟩)) ++ [some (.row ⟨z, 0, true, ty, fun _ => []⟩)]⟩ := by
  intro o β a w hr
  have hN := hr.heap.out s.L.length (Nat.le_refl _)
  have hle : β.le (β.put s.L.length ⟨0, 0, z, 0⟩) := Bt.le_put _ hN
  have hlt : b < s.L.length := by
    have := getL_some.1 hb
    rcases Nat.lt_or_ge b s.L.length with h | h
    · exact h
    · rw [List.getElem?_eq_none h] at this; cases this
  have hg0 : getL (s.L ++ [some (.row ⟨z, 0, true, ty, fun _ => []⟩)]) b = some (.row ⟨zb, 1, true, tyb, el⟩) := by
    rw [getL_some, List.getElem?_append_left hlt]
    exact getL_some.1 hb
  have hh := relH_ghost hr.heap z ty true fun _ => []
  have hh2 := relH_set (K' := .row ⟨zb, 1, true, tyb, fun _ => (el 0).set k (.slc s.L.length 0 0)⟩) hh hg0 (fun _ => rfl) (fun p hp => by
    obtain ⟨p', hp', rk⟩ := hh.blk b _ (getL_some.1 hg0)
    rw [hp] at hp'
    cases hp'
    exact relB_ghost (Bt.put_same ..) hk rk)
  rw [List.set_append_left _ _ hlt] at hh2
  refine ⟨β.put s.L.length ⟨0, 0, z, 0⟩, hr.size, fun n => (hr.env n).mono hle, hh2, hr.keep.trans ⟨rfl, rfl, rfl, Nat.le_refl _, fun _ _ _ => rfl, fun i K1 p hi hp hc => ?_, fun _ _ _ h => h, fun _ _ _ h => .inl h⟩, hr.base, ?_, fun i hi => ?_, hr.defers⟩
  · rcases Nat.lt_or_ge i s.L.length with h1 | h1
    · have hi : (s.L.set b (some (.row ⟨zb, 1, true, tyb, fun _ => (el 0).set k (.slc s.L.length 0 0)⟩)) ++ [some (SK.row ⟨z, 0, true, ty, fun _ => []⟩)])[i]? = some (some K1) := hi
      rw [List.getElem?_append_left (by simpa using h1)] at hi
      simp only [Bt.put, Nat.ne_of_lt h1, if_false] at hp
      rcases set_some hi with ⟨rfl, rfl⟩ | ⟨_, h2⟩
      · exact .inr ⟨i, _, p, getL_some.1 hb, hp, hc, rfl, fun _ => rfl, .inl rfl⟩
      · exact .inr ⟨i, K1, p, h2, hp, hc, rfl, id, .inl rfl⟩
    · have hi : (s.L.set b (some (.row ⟨zb, 1, true, tyb, fun _ => (el 0).set k (.slc s.L.length 0 0)⟩)) ++ [some (SK.row ⟨z, 0, true, ty, fun _ => []⟩)])[i]? = some (some K1) := hi
      rw [List.getElem?_append_right (by simpa using h1)] at hi
      obtain ⟨e1, _⟩ := single_get hi
      simp only [List.length_set] at e1
      have : i = s.L.length := by omega
      subst this
      rw [Bt.put_same] at hp
      cases hp
      exact absurd hc (Nat.lt_irrefl _)
  · show s.base ≤ (s.L.set b _ ++ [_]).length
    rw [List.length_append, List.length_set]
    exact Nat.le_trans hr.blen (Nat.le_add_right _ _)
  · have hi' : i < s.base := hi
    have : i ≠ s.L.length := by have := hr.blen; omega
    simp only [Bt.put, this, if_false]
    exact hr.same i hi'
theorem Lent.sem {s1 : St} (h : Lent P s s1) (k : Sem P Q K s1) : Sem P Q K s := fun o β a w hr => let ⟨β1, h1⟩ := h o β a w hr; k o β1 a w h1
theorem Lent.ops {all rest : List Oper} {s1 : St} (h : Lent P s s1) (k : SemOps P Q all rest K s1) : SemOps P Q all rest K s := fun o β a w hr => let ⟨β1, h1⟩ := h o β a w hr; k o β1 a w h1
theorem SemOps.callE {all rest : List Oper} {op : Oper} {fo : Operand} {argos : Array Operand} {ats : Array TypeId} {f : FuncId} {fi ca : List SV}
    (hop : op.op = .call ⟨.value fo, argos, ats⟩) (hg : op.guard = none) (hfv : seval s.env fo = .fn (.func f) fi ca) (hcal : Cal P f)
    (l : List Nat) {ac : List SV} {Lc : List (Option SK)} {R : SE → List (Option SK) → Prop} (hc : SCall P f ac Lc R)
    (hargs : EntL nofz (rho l s.L.length) ac (fi ++ argos.toList.map (seval s.env) ++ ca)) (hnd : l.Nodup) (hL : wkL nofz (rho l s.L.length) s.L l Lc) (hd : dstOk s op.dst)
    (next : ∀ r L', R (.ret r) L' → SemOps P Q all rest K ((s.after l Lc L').put op.dst (r.ren (rho l s.L.length))))
    (pan : ∀ x L', R (.pan x) L' → Q (.panic (x.ren (rho l s.L.length))) (s.after l Lc L')) : SemOps P Q all (op :: rest) K s := by
  obtain ⟨fn, hfn, hbody, hname⟩ := hcal
  intro o β a w hr
  unfold wpList
  rw [if_pos (by simp [Region.wanted, hg])]
  left
  have hf := eval_rel hr fo
  rw [hfv] at hf
  obtain ⟨c1, c2, hfe, hfi, hca⟩ := hf
  have hrun : (execOp a.eval op).run P w = .ok (.enter f (c1 ++ argos.map a.eval ++ c2)) w := by
    have hn : fn.body.isNone = false := by cases hb : fn.body <;> simp [hb] at hbody ⊢
    simp only [execOp, hop, resolve, Deferred.ofValue, hfe, Sem.run_bind, Sem.run_pure, Result.andThen_ok, invoke, callFunc, run_program, hfn, hname, hn, Bool.false_eq_true, if_false]
  unfold Oper.wp
  rw [hrun]
  have hrelA : RelL β (fi ++ argos.toList.map (seval s.env) ++ ca) (c1 ++ argos.map a.eval ++ c2).toList := by
    have h1 : RelL β (argos.toList.map (seval s.env)) (argos.toList.map a.eval) := relL_map (fun x => eval_rel hr x) _
    have := (hfi.append h1).append hca
    simpa using this
  refine (hc w _ _ (hr.heap.view hnd hL) (EntL.rel (Ren.of_ren (w := w) _) _ _ _ hargs hrelA)).mono fun e w' ⟨β', L', r, hR, hrel, hh, hk, hlen', hsame⟩ => ?_
  obtain ⟨β2, hr2, hren, _⟩ := hr.called hnd hL hh hk hlen' hsame
  cases r with
  | ret x =>
    obtain ⟨v, rfl, hv⟩ := hrel
    exact next x L' hR o β2 _ w' (hr2.put hd (RelV.ren hren x v hv))
  | pan x =>
    obtain ⟨v, rfl, hv⟩ := hrel
    exact panic_KQ K a w' ⟨β2, _, .panic (x.ren (rho l s.L.length)), ⟨v, rfl, RelV.ren hren x v hv⟩, pan x L' hR, hr2⟩
theorem OpSem.callE {op : Oper} {fo : Operand} {argos : Array Operand} {ats : Array TypeId} {f : FuncId} {fi ca : List SV} {N : St → Prop}
    (hop : op.op = .call ⟨.value fo, argos, ats⟩) (hfv : seval s.env fo = .fn (.func f) fi ca) (hcal : Cal P f)
    (l : List Nat) {ac : List SV} {Lc : List (Option SK)} {R : SE → List (Option SK) → Prop} (hc : SCall P f ac Lc R)
    (hargs : EntL nofz (rho l s.L.length) ac (fi ++ argos.toList.map (seval s.env) ++ ca)) (hnd : l.Nodup) (hL : wkL nofz (rho l s.L.length) s.L l Lc) (hd : dstOk s op.dst)
    (next : ∀ r L', R (.ret r) L' → N ((s.after l Lc L').put op.dst (r.ren (rho l s.L.length))))
    (pan : ∀ x L', ¬ R (.pan x) L') : OpSem P op N s := by
  obtain ⟨fn, hfn, hbody, hname⟩ := hcal
  intro o β a w hr
  have hf := eval_rel hr fo
  rw [hfv] at hf
  obtain ⟨c1, c2, hfe, hfi, hca⟩ := hf
  have hrun : (execOp a.eval op).run P w = .ok (.enter f (c1 ++ argos.map a.eval ++ c2)) w := by
    have hn : fn.body.isNone = false := by cases hb : fn.body <;> simp [hb] at hbody ⊢
    simp only [execOp, hop, resolve, Deferred.ofValue, hfe, Sem.run_bind, Sem.run_pure, Result.andThen_ok, invoke, callFunc, run_program, hfn, hname, hn, Bool.false_eq_true, if_false]
  unfold stepTo
  rw [hrun]
  have hrelA : RelL β (fi ++ argos.toList.map (seval s.env) ++ ca) (c1 ++ argos.map a.eval ++ c2).toList := by
    have h1 : RelL β (argos.toList.map (seval s.env)) (argos.toList.map a.eval) := relL_map (fun x => eval_rel hr x) _
    have := (hfi.append h1).append hca
    simpa using this
  refine (hc w _ _ (hr.heap.view hnd hL) (EntL.rel (Ren.of_ren (w := w) _) _ _ _ hargs hrelA)).mono fun e w' ⟨β', L', r, hR, hrel, hh, hk, hlen', hsame⟩ => ?_
  obtain ⟨β2, hr2, hren, hle2⟩ := hr.called hnd hL hh hk hlen' hsame
  cases r with
  | ret x =>
    obtain ⟨v, rfl, hv⟩ := hrel
    exact ⟨v, rfl, β2, _, next x L' hR, hr2.put hd (RelV.ren hren x v hv), hle2.m⟩
  | pan x => exact (pan x L' hR).elim
theorem SemOps.callw {all rest : List Oper} {op : Oper} {fo : Operand} {argos : Array Operand} {ats : Array TypeId} {f : FuncId} {x : SV} {ac : List SV} {Lc L1 : List (Option SK)} (l : List Nat)
    (hcal : Cal P f) (hc : SCall P f ac Lc fun r L' => r = .ret x ∧ L' = L1) (hop : op.op = .call ⟨.value fo, argos, ats⟩) (hg : op.guard = none) (hfv : seval s.env fo = .fn (.func f) [] [])
    (hargs : EntL nofz (rho l s.L.length) ac (argos.toList.map (seval s.env))) (hnd : nodupN l = true) (hL : wkL nofz (rho l s.L.length) s.L l Lc)
    (hd : dstOk s op.dst) (next : SemOps P Q all rest K ((s.after l Lc L1).put op.dst (x.ren (rho l s.L.length)))) : SemOps P Q all (op :: rest) K s := by
  refine SemOps.callE hop hg hfv hcal l hc (by simpa using hargs) (nodupN_spec hnd) hL hd (fun r L' h => ?_) (fun x L' h => nomatch h.1)
  obtain ⟨h1, rfl⟩ := h
  cases h1
  exact next
theorem OpSem.callw {op : Oper} {fo : Operand} {argos : Array Operand} {ats : Array TypeId} {f : FuncId} {x : SV} {N : St → Prop} {ac : List SV} {Lc L1 : List (Option SK)} (l : List Nat)
    (hcal : Cal P f) (hc : SCall P f ac Lc fun r L' => r = .ret x ∧ L' = L1) (hop : op.op = .call ⟨.value fo, argos, ats⟩) (hfv : seval s.env fo = .fn (.func f) [] [])
    (hargs : EntL nofz (rho l s.L.length) ac (argos.toList.map (seval s.env))) (hnd : nodupN l = true) (hL : wkL nofz (rho l s.L.length) s.L l Lc)
    (hd : dstOk s op.dst) (next : N ((s.after l Lc L1).put op.dst (x.ren (rho l s.L.length)))) : OpSem P op N s := by
  refine OpSem.callE hop hfv hcal l hc (by simpa using hargs) (nodupN_spec hnd) hL hd (fun r L' h => ?_) (fun x L' h => nomatch h.1)
  obtain ⟨h1, rfl⟩ := h
  cases h1
  exact next
theorem SKren_row (ρ : Nat → Nat) (z n : Nat) (own : Bool) (ty : TypeId) (el : Nat → List SV) : SK.ren ρ (.row ⟨z, n, own, ty, el⟩) = .row ⟨z, n, own, ty, fun e => SV.renL ρ (el e)⟩ := rfl
theorem renL_flat (ρ : Nat → Nat) (l : List SV) (h : SV.flatL l = true) : SV.renL ρ l = l := SV.flatL_ren ρ l h
theorem ren_tup (ρ : Nat → Nat) (l : List SV) : SV.ren ρ (.tup l) = .tup (SV.renL ρ l) := rfl
end
end Go.SL
namespace Go.SL
open Go
theorem EntK_flat {fz : Nat → Option SB} {ρ : Nat → Nat} {z n : Nat} {own : Bool} {ty : TypeId} {el : Nat → List SV} (h : ∀ e, SV.flatL (el e) = true) : EntK fz ρ (.row ⟨z, n, own, ty, el⟩) (.row ⟨z, n, own, ty, el⟩) :=
  ⟨rfl, rfl, rfl, id, fun e _ => EntL.self (h e)⟩
end Go.SL
namespace Go.SL
open Go
section
variable {P : Program} {Q : SX → St → Prop} {K : List It} {s : St}
theorem SemOps.ofDoes {all rest : List Oper} {op : Oper} {r : SO} (hg : op.guard = none)
    (h : ∀ ρ w β, Loc w β s.L.length (getL s.L) → (∀ x, RelV β (seval s.env x) (ρ x)) → Does P op ρ w β s.L.length (getL s.L) r)
    (hd : dstOk s op.dst) (next : SemOps P Q all rest K (s.step op.dst r)) : SemOps P Q all (op :: rest) K s := by
  intro o β a w hr
  unfold wpList
  rw [if_pos (by simp [Region.wanted, hg])]
  obtain ⟨nx, y, w', β', hrun, hnx, hy, hout, _⟩ := h a.eval w β (loc_of hr) (fun x => eval_rel hr x)
  have hr' := hr.step hd hy hout
  left
  unfold Oper.wp
  rw [hrun]
  rcases hnx with rfl | ⟨rfl, rfl⟩
  · exact next o β' _ w' hr'
  · exact next o β' _ w' hr'
theorem mod_get (zs : List Value) (s : Nat) (hs : zs.length = s) (hp : 0 < s) (n i : Nat) (hi : i < n * s) (z : Array Value) (hz : z.toList = zs) : (madeCells z (n * s))[i]? = some (zs.getD (i % s) undef) := by
  have hsz : z.size = s := by rw [← Array.length_toList, hz, hs]
  have hm : i % s < z.size := by rw [hsz]; exact Nat.mod_lt _ hp
  unfold madeCells
  rw [Array.getElem?_map, Array.getElem?_range, if_pos hi, Option.map_some, hsz]
  rw [getElem!_pos z (i % s) (by rwa [hsz] at hm ⊢)]
  rw [← hz, List.getD_eq_getElem?_getD, Array.getElem?_toList]
  simp [hsz, Nat.mod_lt _ hp]
theorem does_make {w : World} {β : Bt} {N : Nat} {get : Nat → Option SK} {ρ : Operand → Value} (H : Loc w β N get) {dst : Option Tmp} {t e : TypeId} {l c : Operand} {ty : TypeId} {pos : String} {af : Array Edge} {g : Option (Nat × Bool)} {sz by_ n : Nat} {kl kc : IntKind} {zs : List Value}
    (hu : P.underlying t = some (.slice e)) (he : ElTy P e sz by_) (hz : tzero P e = some zs) (hone : zs.all (·.oneCell') = true) (hl : ρ l = .int kl (n : Int)) (hc : ρ c = .int kc (n : Int)) (hb : by_ * n ≤ 281474976710656) :
    Does P ⟨dst, .makeSlice t l c, ty, pos, af, g⟩ ρ w β N get ⟨.slc N 0 n, { new := some (.row ⟨sz, n, true, e, fun _ => zs.map .v⟩) }, True⟩ := by
  obtain ⟨hs, hby, ⟨zs', hz', hzl⟩, hp1, hp2⟩ := he
  rw [hz] at hz'
  cases hz'
  unfold tsz at hs
  unfold tby at hby
  obtain ⟨i, hi, hsi⟩ := Option.map_eq_some_iff.1 hs
  rw [hi] at hby
  simp only [Option.map_some, Option.some.injEq] at hby
  unfold tzero at hz
  rw [hi, Option.bind_some] at hz
  obtain ⟨z, hzz, hzc⟩ := Option.map_eq_some_iff.1 hz
  subst hsi
  subst hby
  have hn : n ≤ 281474976710656 := by
    have : 1 * n ≤ i.bytes * n := Nat.mul_le_mul_right _ hp2
    omega
  have hr := run_make (P := P) w t e i z hu hi hzz kl kc (n : Int) (n : Int) (by omega) (Int.le_refl _) (by
    have h : ((i.bytes * n : Nat) : Int) ≤ 281474976710656 := by omega
    rwa [Int.natCast_mul] at h) (by omega)
  simp only [Int.toNat_natCast] at hr
  refine ⟨.value (.slice (some ⟨w.heap.size, 0, none⟩) n n), _, w.alloc (.cells (madeCells z.cells (n * i.size)) e), β.put N ⟨w.heap.size, 0, i.size, n⟩, ?_, .inl rfl, ⟨⟨w.heap.size, 0, i.size, n⟩, _, n, Bt.put_same .., rfl, Nat.le_refl _, .inr ⟨by simp, by simp⟩⟩, ?_, fun h => (nomatch h)⟩
  · simp only [execOp, hl, hc, Sem.run_bind, hr, Result.andThen_ok]
    rfl
  · refine Out.row H.new rfl rfl rfl rfl _ i.size n n e (fun _ => zs.map .v) true (Nat.le_refl _) (size_madeCells _ _) (by simp [maxLen]; omega) (fun e' he' => ?_) none (fun _ _ h => (nomatch h))
    refine ⟨by simpa using hzl, fun j x hx => ?_⟩
    have hj : j < i.size := by
      have := (List.getElem?_eq_some_iff.1 hx).1
      simp at this
      omega
    have hlt : e' * i.size + j < n * i.size := by
      have : (e' + 1) * i.size ≤ n * i.size := Nat.mul_le_mul_right _ he'
      rw [Nat.add_mul] at this
      omega
    rw [List.getElem?_map] at hx
    obtain ⟨v, hv, rfl⟩ := Option.map_eq_some_iff.1 hx
    refine ⟨v, ?_, ?_, rfl⟩
    · rw [mod_get zs i.size hzl hp1 n _ hlt z.cells hzc, Nat.mul_add_mod_of_lt hj, List.getD_eq_getElem?_getD, hv, Option.getD_some]
    · exact (List.all_eq_true.1 hone) v (List.mem_of_getElem? hv)
theorem SemOps.make {all rest : List Oper} {dst : Option Tmp} {t e : TypeId} {l c : Operand} {ty : TypeId} {pos : String} {af : Array Edge} {sz by_ : Nat} {kl kc : IntKind} {zs : List Value} (n : Nat)
    (hu : P.underlying t = some (.slice e)) (he : ElTy P e sz by_) (hz : tzero P e = some zs) (hone : zs.all (·.oneCell') = true) (hl : seval s.env l = .v (.int kl (n : Int))) (hc : seval s.env c = .v (.int kc (n : Int))) (hb : by_ * n ≤ 281474976710656)
    (hd : dstOk s dst) (next : SemOps P Q all rest K (s.step dst ⟨.slc s.L.length 0 n, { new := some (.row ⟨sz, n, true, e, fun _ => zs.map .v⟩) }, True⟩)) : SemOps P Q all (⟨dst, .makeSlice t l c, ty, pos, af, none⟩ :: rest) K s :=
  SemOps.ofDoes rfl (fun ρ w β H hev => does_make H hu he hz hone (by have := hev l; rw [hl] at this; exact this) (by have := hev c; rw [hc] at this; exact this) hb) hd next
end
end Go.SL
namespace Go.SL
open Go
variable {P : Program} {Q : SX → St → Prop} {K : List It} {s : St}
theorem KQ_split {o : Org} {x y : Code} : ∀ (pre : List It) (e : Exit) (a : Act) (w : World), KQ P o Q (pre ++ .code x :: .code y :: K) e a w → KQ P o Q (pre ++ .code (.seq x y) :: K) e a w
  | [], e, a, w, h => by
    cases e with
    | normal => exact wp_seq h
    | exit id => exact h
    | goto l => exact h
    | ret => exact h
    | panic ch => exact h
    | outgrown => exact h
  | .code c :: pre, e, a, w, h => by
    cases e with
    | normal =>
      have h' : c.wp P (KQ P o Q (pre ++ .code x :: .code y :: K)) a w := h
      exact wp_mono h' fun e a w hh => KQ_split pre e a w hh
    | exit id => exact KQ_split pre _ a w h
    | goto l => exact KQ_split pre _ a w h
    | ret => exact KQ_split pre _ a w h
    | panic ch => exact KQ_split pre _ a w h
    | outgrown => exact KQ_split pre _ a w h
  | .inv J2 :: pre, e, a, w, h => by
    cases e with
    | normal => exact h
    | exit id => exact KQ_split pre _ a w h
    | goto l => exact KQ_split pre _ a w h
    | ret => exact KQ_split pre _ a w h
    | panic ch => exact KQ_split pre _ a w h
    | outgrown => exact KQ_split pre _ a w h
  | .blk id :: pre, e, a, w, h => by
    have h' : Exit.inBlock id (KQ P o Q (pre ++ .code x :: .code y :: K)) e a w := h
    show Exit.inBlock id (KQ P o Q (pre ++ .code (.seq x y) :: K)) e a w
    cases e with
    | exit i =>
      unfold Exit.inBlock at h' ⊢
      simp only at h' ⊢
      split
      · rename_i e; rw [if_pos e] at h'; exact KQ_split pre _ a w h'
      · rename_i e; rw [if_neg e] at h'; exact KQ_split pre _ a w h'
    | normal => exact KQ_split pre _ a w h'
    | goto l => exact KQ_split pre _ a w h'
    | ret => exact KQ_split pre _ a w h'
    | panic ch => exact KQ_split pre _ a w h'
    | outgrown => exact KQ_split pre _ a w h'
theorem Sem.split {x y : Code} (pre : List It) (h : Sem P Q (pre ++ .code x :: .code y :: K) s) : Sem P Q (pre ++ .code (.seq x y) :: K) s :=
  fun o β a w hr => KQ_split pre .normal a w (h o β a w hr)
end Go.SL
namespace Go.SL
open Go
def toldL : List Nat → List (Option SK) → List Nat
  | i :: l, some _ :: r => i :: toldL l r
  | _ :: l, none :: r => toldL l r
  | _, _ => []
theorem toldL_mem : ∀ (l : List Nat) (r : List (Option SK)) (i b : Nat) (K : SK), l[i]? = some b → r[i]? = some (some K) → b ∈ toldL l r
  | [], _, i, b, K, h, _ => by simp at h
  | _ :: _, [], i, b, K, _, h => by simp at h
  | j :: l, some K0 :: r, 0, b, K, h, _ => by simp at h; subst h; simp [toldL]
  | j :: l, some K0 :: r, i + 1, b, K, h, h' => by
    have := toldL_mem l r i b K (by simpa using h) (by simpa using h')
    simp [toldL, this]
  | j :: l, none :: r, 0, b, K, _, h' => by simp at h'
  | j :: l, none :: r, i + 1, b, K, h, h' => by
    have := toldL_mem l r i b K (by simpa using h) (by simpa using h')
    simpa [toldL] using this
theorem told_inj : ∀ {l : List Nat} {r : List (Option SK)} (_ : (toldL l r).Nodup) (i j : Nat) (K1 K2 : SK) (b : Nat), r[i]? = some (some K1) → r[j]? = some (some K2) → l[i]? = some b → l[j]? = some b → i = j
  | [], _, _, i, j, K1, K2, b, _, _, h, _ => by simp at h
  | _ :: _, [], _, i, j, K1, K2, b, h, _, _, _ => by simp at h
  | x :: l, none :: r, hn, i, j, K1, K2, b, g1, g2, h1, h2 => by
    cases i with
    | zero => simp at g1
    | succ i =>
      cases j with
      | zero => simp at g2
      | succ j =>
        have := told_inj (l := l) (r := r) hn i j K1 K2 b (by simpa using g1) (by simpa using g2) (by simpa using h1) (by simpa using h2)
        omega
  | x :: l, some K0 :: r, hn, i, j, K1, K2, b, g1, g2, h1, h2 => by
    have hn' : x ∉ toldL l r ∧ (toldL l r).Nodup := by simpa [toldL] using hn
    cases i with
    | zero =>
      cases j with
      | zero => rfl
      | succ j =>
        have e : x = b := by simpa using h1
        exact absurd (toldL_mem l r j b K2 (by simpa using h2) (by simpa using g2)) (by rw [← e]; exact hn'.1)
    | succ i =>
      cases j with
      | zero =>
        have e : x = b := by simpa using h2
        exact absurd (toldL_mem l r i b K1 (by simpa using h1) (by simpa using g1)) (by rw [← e]; exact hn'.1)
      | succ j =>
        have := told_inj (l := l) (r := r) hn'.2 i j K1 K2 b (by simpa using g1) (by simpa using g2) (by simpa using h1) (by simpa using h2)
        omega
section
variable {P : Program} {Q : SX → St → Prop} {K : List It} {s : St} {o : Org} {β : Bt} {a : Act} {w : World}
structure WkMP (l : List Nat) (s s' : St) : Prop where
  sz : s'.sz = s.sz
  base : s'.base = s.base
  blen : s'.base ≤ s'.L.length
  inj : (toldL l s'.L).Nodup
  mv : ∀ i K' j, s'.L[i]? = some (some K') → l[i]? = some j → j < s.base → s.base ≤ i → K'.own = true
  same : l.take s.base = List.range s.base
  env : ∀ n, Ent (fzOf s.L l s'.L) (rho l s.L.length) (lookup s'.env n) (lookup s.env n)
  L : wkL (fzOf s.L l s'.L) (rho l s.L.length) s.L l s'.L
theorem RR.weakenMP {l : List Nat} {s' : St} (h : RR o β s a w) (k : WkMP l s s') : ∃ β', RR o β' s' a w ∧ Ren w (fzOf s.L l s'.L) (rho l s.L.length) β β' := by
  have hlen := wkL_length k.L
  have hrho : ∀ i, i < s.base → rho l s.L.length i = i := by
    intro i hi
    have h1 : (l.take s.base)[i]? = some i := by rw [k.same]; simp [hi]
    rw [List.getElem?_take_of_lt hi] at h1
    have h2 := rho_lt l s.L.length i (List.getElem?_eq_some_iff.1 h1).1
    rw [h1] at h2
    exact (Option.some.inj h2).symm
  have hget : ∀ i K', s'.L[i]? = some (some K') → ∃ K, l[i]? = some (rho l s.L.length i) ∧ s.L[rho l s.L.length i]? = some (some K) ∧ EntK (fzOf s.L l s'.L) (rho l s.L.length) K' K := by
    intro i K' hi
    obtain ⟨j, K, h1, h2, h3⟩ := wkL_get k.L i K' hi
    have h4 := rho_lt l s.L.length i (List.getElem?_eq_some_iff.1 h1).1
    have : j = rho l s.L.length i := by rw [h1] at h4; cases h4; rfl
    subst this
    exact ⟨K, h1, getL_some.1 h2, h3⟩
  have hinj : ∀ i j K1 K2, s'.L[i]? = some (some K1) → s'.L[j]? = some (some K2) → l[i]? = some (rho l s.L.length i) → l[j]? = some (rho l s.L.length j) → rho l s.L.length i = rho l s.L.length j → i = j := by
    intro i j K1 K2 g1 g2 h1 h2 e
    exact told_inj k.inj i j K1 K2 _ g1 g2 h1 (by rw [e]; exact h2)
  let β' : Bt := ⟨fun i => β (rho l s.L.length i), frzM w β (fzOf s.L l s'.L)⟩
  have hren : Ren w (fzOf s.L l s'.L) (rho l s.L.length) β β' := by
    refine ⟨fun i => rfl, fun b c v hv => frzM_old hv, fun i B hz p hp => ?_⟩
    obtain ⟨h1, h2, _⟩ := fzOf_some hz
    obtain ⟨q, hq, rk⟩ := h.heap.blk i _ h1
    rw [hp] at hq
    cases hq
    refine ⟨rk, fun hc c v hv h1v => ?_⟩
    show frzM w β (fzOf s.L l s'.L) p.blk c = some v
    cases hm : β.m p.blk c with
    | some u => exact absurd rfl (h.heap.rosep i _ p p.blk c u h1 h2 hp hc hm)
    | none =>
      unfold frzM
      simp only [hm]
      rw [if_pos ⟨i, B, p, hz, hp, hc, rfl⟩]
      simp only [hv, h1v, if_true]
  have hfrz : ∀ b c v, frzM w β (fzOf s.L l s'.L) b c = some v → β.m b c = some v ∨ ((∃ i B p, s.L[i]? = some (some (.row B)) ∧ B.own = true ∧ keptB l s'.L i = false ∧ β i = some p ∧ 0 < p.cap ∧ p.blk = b) ∧ w.cell? ⟨b, c, none⟩ = some v ∧ v.oneCell' = true) := by
    intro b c v hv
    rcases frzM_some hv with h1 | ⟨⟨i, B, p, hz, hp, hc, e⟩, h2⟩
    · exact .inl h1
    · obtain ⟨z1, z2, z3⟩ := fzOf_some hz
      exact .inr ⟨⟨i, B, p, z1, z2, z3, hp, hc, e⟩, h2⟩
  refine ⟨β', ⟨by rw [k.sz]; exact h.size, fun n => Ent.rel hren _ _ _ (k.env n) (h.env n), ⟨fun i K' hi => ?_, fun i K' p hi hp hc => ?_, fun i j K1 K2 p q hij hi hj hp hq ho hc hc' => ?_, fun i hi => ?_, fun b c v hv => ?_, fun i K' p b c v hi ho hp hc hv e => ?_⟩,
    ⟨h.keep.os, h.keep.tape, h.keep.output, h.keep.size, h.keep.old, fun i K' p hi hp hc => ?_, fun b c v hv => frzM_old (h.keep.mle b c v hv), fun b c v hv => ?_⟩, by rw [k.base]; exact h.base, k.blen, fun i hi => ?_, h.defers⟩, hren⟩
  · obtain ⟨K, _, h2, h3⟩ := hget i K' hi
    obtain ⟨p, hp, rk⟩ := h.heap.blk _ K h2
    exact ⟨p, hp, h3.rel hren rk⟩
  · obtain ⟨K, _, h2, _⟩ := hget i K' hi
    exact h.heap.lt _ K p h2 hp hc
  · obtain ⟨Ka, l1, h2, h3⟩ := hget i K1 hi
    obtain ⟨Kb, l2, h5, _⟩ := hget j K2 hj
    exact h.heap.sep _ _ Ka Kb p q (fun e => hij (hinj i j K1 K2 hi hj l1 l2 e)) h2 h5 hp hq (h3.own ho) hc hc'
  · show β (rho l s.L.length i) = none
    rw [rho_ge l _ i (by omega)]
    exact h.heap.out _ (by omega)
  · rcases hfrz b c v hv with h1 | ⟨⟨i, B, p, z1, z2, z3, hp, hc, e⟩, h2, h3⟩
    · exact h.heap.ro b c v h1
    · exact ⟨h2, h3, by rw [← e]; exact h.heap.lt i _ p z1 hp hc⟩
  · obtain ⟨K, l1, h2, h3⟩ := hget i K' hi
    rcases hfrz b c v hv with h1 | ⟨⟨i0, B, q, z1, z2, z3, hq, hqc, e'⟩, _⟩
    · exact h.heap.rosep _ K p b c v h2 (h3.own ho) hp hc h1 e
    · have hne : rho l s.L.length i ≠ i0 := fun e0 => by
        subst e0
        have := keptB_of l s'.L i _ K' l1 hi
        rw [z3] at this
        cases this
      exact h.heap.sep _ _ K _ p q hne h2 z1 hp hq (h3.own ho) hc hqc (e.trans e'.symm)
  · obtain ⟨K, l1, h2, h3⟩ := hget i K' hi
    rcases h.keep.new _ K p h2 hp hc with h4 | ⟨j, K0, q, hj, hq, hqc, e, ow, hji⟩
    · exact .inl h4
    · refine .inr ⟨j, K0, q, hj, hq, hqc, e, fun o' => ow (h3.own o'), ?_⟩
      rcases hji with hji | hji
      · have hjb : j < s.base := by
          rw [h.base]
          exact (List.getElem?_eq_some_iff.1 hj).1
        rcases Nat.lt_or_ge i s.base with hib | hib
        · left
          rw [hji]
          exact hrho i hib
        · right
          exact ow (h3.own (k.mv i K' _ hi l1 (by rw [← hji]; exact hjb) hib))
      · exact .inr hji
  · rcases hfrz b c v hv with h1 | ⟨⟨i, B, p, z1, z2, z3, hp, hc, e⟩, _⟩
    · exact h.keep.mem b c v h1
    · rcases h.keep.new i _ p z1 hp hc with h4 | ⟨j, K0, q, hj, hq, hqc, e', ow, _⟩
      · exact .inr (.inl (by rw [← e]; exact h4))
      · exact .inr (.inr ⟨j, K0, q, hj, ow z2, hq, hqc, e'.trans e⟩)
  · rw [k.base] at hi
    show β (rho l s.L.length i) = _
    rw [hrho i hi]
    exact h.same i hi
def mvOk (base : Nat) : Nat → List Nat → List (Option SK) → Bool
  | i, j :: l, some K :: r => (Nat.blt i base || Nat.ble base j || K.own) && mvOk base (i + 1) l r
  | i, _ :: l, none :: r => mvOk base (i + 1) l r
  | _, _, _ => true
theorem mvOk_spec (base : Nat) : ∀ (k : Nat) (l : List Nat) (r : List (Option SK)), mvOk base k l r = true → ∀ i K' j, r[i]? = some (some K') → l[i]? = some j → j < base → base ≤ k + i → K'.own = true
  | k, [], _, _, i, K', j, _, h, _, _ => by simp at h
  | k, _ :: _, [], _, i, K', j, h, _, _, _ => by simp at h
  | k, x :: l, none :: r, hm, i, K', j, g, h, hj, hi => by
    cases i with
    | zero => simp at g
    | succ i => exact mvOk_spec base (k + 1) l r hm i K' j (by simpa using g) (by simpa using h) hj (by omega)
  | k, x :: l, some K0 :: r, hm, i, K', j, g, h, hj, hi => by
    simp only [mvOk, Bool.and_eq_true, Bool.or_eq_true] at hm
    cases i with
    | zero =>
      have e1 : K0 = K' := by simpa using g
      have e2 : x = j := by simpa using h
      subst e1 e2
      rcases hm.1 with (h1 | h1) | h1
      · have : k < base := by simpa [Nat.blt_eq] using h1
        omega
      · have : base ≤ x := by simpa using h1
        omega
      · exact h1
    | succ i => exact mvOk_spec base (k + 1) l r hm.2 i K' j (by simpa using g) (by simpa using h) hj (by omega)
def nodupB : List Nat → Bool
  | [] => true
  | x :: l => !(l.contains x) && nodupB l
theorem nodupB_spec : ∀ (l : List Nat), nodupB l = true → l.Nodup
  | [], _ => List.nodup_nil
  | x :: l, h => by
    simp only [nodupB, Bool.and_eq_true, Bool.not_eq_true'] at h
    refine List.nodup_cons.2 (And.intro (fun hm => ?_) (nodupB_spec l h.2))
    have h1 : l.contains x = true := by simpa using hm
    rw [h.1] at h1
    cases h1
structure WkM (l : List Nat) (s s' : St) : Prop where
  sz : s'.sz = s.sz
  base : s'.base = s.base
  blen : Nat.ble s'.base s'.L.length = true
  inj : nodupB (toldL l s'.L) = true
  mv : mvOk s.base 0 l s'.L = true
  same : l.take s.base = List.range s.base
  env : wkEnv (fzOf s.L l s'.L) (rho l s.L.length) s.env s'.env
  L : wkL (fzOf s.L l s'.L) (rho l s.L.length) s.L l s'.L
theorem WkM.toP {l : List Nat} {s s' : St} (k : WkM l s s') : WkMP l s s' :=
  ⟨k.sz, k.base, Nat.le_of_ble_eq_true k.blen, nodupB_spec _ k.inj, fun i K' j h1 h2 h3 h4 => mvOk_spec _ 0 l _ k.mv i K' j h1 h2 h3 (by omega), k.same, wkEnv_get k.env, k.L⟩
theorem RR.weakenM {l : List Nat} {s' : St} (h : RR o β s a w) (k : WkM l s s') : ∃ β', RR o β' s' a w := let ⟨β', h, _⟩ := h.weakenMP k.toP; ⟨β', h⟩
theorem Sem.weakenM {s' : St} (l : List Nat) (k : WkM l s s') (h : Sem P Q K s') : Sem P Q K s := fun o β a w hr => let ⟨β', hr'⟩ := hr.weakenM k; h o β' a w hr'
theorem SemOps.weakenM {all rest : List Oper} {s' : St} (l : List Nat) (k : WkM l s s') (h : SemOps P Q all rest K s') : SemOps P Q all rest K s := fun o β a w hr => let ⟨β', hr'⟩ := hr.weakenM k; h o β' a w hr'
theorem SCall.tell {f : FuncId} {args : List SV} {L L1 L' : List (Option SK)} {x x' : SV} (l : List Nat) (hc : SCall P f args L fun r M => r = .ret x ∧ M = L1)
    (k : WkM l ⟨1, L.length, [(0, x)], L1⟩ ⟨1, L.length, [(0, x')], L'⟩) : SCall P f args L fun r M => r = .ret x' ∧ M = L' := by
  intro w β cargs hH hA
  refine Calls.mono (hc w β cargs hH hA) fun e w' h => ?_
  obtain ⟨β', M, r, ⟨rfl, rfl⟩, ⟨v, rfl, hv⟩, hH', hK, hle, hsame⟩ := h
  have hr : RR ⟨w, β, L, []⟩ β' ⟨1, L.length, [(0, x)], M⟩ ⟨#[v], []⟩ w' := by
    refine ⟨rfl, fun n => ?_, hH', hK, rfl, hle, hsame, rfl⟩
    cases n with
    | zero => exact hv
    | succ n => exact trivial
  obtain ⟨β2, h2⟩ := hr.weakenM k
  refine ⟨β2, L', .ret x', ⟨rfl, rfl⟩, ⟨v, rfl, h2.env 0⟩, h2.heap, h2.keep, h2.blen, h2.same⟩
theorem SQ.fin {fn : Func} {R : SE → List (Option SK) → Prop} (h : SQ P fn R .ret s) : SQ P fn R .normal s := h
end
end Go.SL
namespace Go.SL
open Go
section
variable {P : Program} {Q : SX → St → Prop} {K : List It} {s : St}
theorem SemOps.panic {all rest : List Oper} {op : Oper} {x : Operand} {t : TypeId} {y : SV} (hop : op.op = .panic x) (hg : op.guard = none) (hx : seval s.env x = .ifc t y) (h : Q (.panic (.ifc t y)) s) : SemOps P Q all (op :: rest) K s := by
  intro o β a w hr
  unfold wpList
  rw [if_pos (by simp [Region.wanted, hg])]
  left
  have hv := eval_rel hr x
  rw [hx] at hv
  have hv2 := hv
  obtain ⟨v', h1, _⟩ := hv
  have hrun : (execOp a.eval op).run P w = .halt (.panic (.iface t v')) w := by
    simp only [execOp, hop, h1]
    rfl
  unfold Oper.wp
  rw [hrun, Oper.upon_panic]
  exact panic_KQ K a w ⟨β, s, .panic (.ifc t y), ⟨.iface t v', rfl, by rw [← h1]; exact hv2⟩, h, hr⟩
theorem SemOps.callPan {all rest : List Oper} {op : Oper} {fo : Operand} {argos : Array Operand} {ats : Array TypeId} {f : FuncId} (l : List Nat) (hcal : Cal P f) {ac : List SV} {Lc : List (Option SK)} {x : SV}
    (hc : SCall P f ac Lc fun r L => r = .pan x) (hx : ∀ ρ, x.ren ρ = x) (hop : op.op = .call ⟨.value fo, argos, ats⟩) (hg : op.guard = none) (hfv : seval s.env fo = .fn (.func f) [] [])
    (hargs : EntL nofz (rho l s.L.length) ac (argos.toList.map (seval s.env))) (hnd : nodupN l = true) (hL : wkL nofz (rho l s.L.length) s.L l Lc) (hd : dstOk s op.dst) (h : ∀ s', Q (.panic x) s') : SemOps P Q all (op :: rest) K s := by
  refine SemOps.callE hop hg hfv hcal l hc (by simpa using hargs) (nodupN_spec hnd) hL hd (fun r L' h => nomatch h) (fun y L' hy => ?_)
  injection hy with hy
  rw [hy, hx]
  exact h _
end
end Go.SL
namespace Go.SL
open Go
set_option linter.unusedVariables false
inductive Scp where
  | non
  | alt (i : Nat) (r o : Scp)
  | pan (i : Nat) (o : Scp)
def Scp.ok (ops : Array Oper) : Scp → Nat → Array Bool → List Nat → Bool
  | .non, _, l, seen => !seen.isEmpty && (Region.ready .any ops l).all seen.contains
  | .alt i r o, n, l, seen => !(n == 0) && (Region.ready .any ops l).contains i && r.ok ops (n - 1) (l.setIfInBounds i true) [] && o.ok ops n l (i :: seen)
  | .pan i o, n, l, seen => !(n == 0) && (Region.ready .any ops l).contains i && o.ok ops n l (i :: seen)
def OpPan (P : Program) (QQ : SX → St → Prop) (op : Oper) (s : St) : Prop :=
  ∀ o β a w K next, RR o β s a w → op.wp P a w next (KQ P o QQ K)
def swScp (P : Program) (QQ : SX → St → Prop) (ops : List Oper) : Scp → St → Prop
  | .non, _ => True
  | .alt i r o', s => obind ops[i]? (fun o => obind (sWant ops s.env o) (fun b => SIf b
      (obind (sop P s.L.length (getL s.L) (seval s.env) o.op) (fun q => dstOk s o.dst ∧ q.ob ∧ swScp P QQ ops r (s.step o.dst q)) False ⟨⟩)
      (dstOk s o.dst ∧ swScp P QQ ops r (s.put o.dst (.v undef))) ⟨⟩) False ⟨⟩) False ⟨⟩ ∧ swScp P QQ ops o' s
  | .pan i o', s => obind ops[i]? (fun o => o.guard = none ∧ OpPan P QQ o s) False ⟨⟩ ∧ swScp P QQ ops o' s
section
variable {P : Program} {QQ : SX → St → Prop} {K : List It} {s : St} {ops : Array Oper} {o : Org}
theorem swScp_sound : ∀ (t : Scp) (n : Nat) (listed : Array Bool) (seen : List Nat) (s : St) (β : Bt) (a : Act) (w : World), t.ok ops n listed seen = true → swScp P QQ ops.toList t s → RR o β s a w →
    (seen = [] → wpAny P .any ops (KQ P o QQ K) n listed a w) ∧
    (∀ m, n = m + 1 → ∀ j ∈ Region.ready .any ops listed, (seen ≠ [] ∧ j ∉ seen) → wpOp P ops (KQ P o QQ K) j (wpAny P .any ops (KQ P o QQ K) m (listed.setIfInBounds j true)) a w)
  | .non, n, listed, seen, s, β, a, w, hok, hs, hr => by
    simp only [Scp.ok, Bool.and_eq_true, Bool.not_eq_true', List.all_eq_true] at hok
    refine ⟨fun e => by rw [e] at hok; simp at hok, fun m _ j hj h => ?_⟩
    exact absurd (by simpa using hok.2 j hj) h.2
  | .alt i r o', n, listed, seen, s, β, a, w, hok, hs, hr => by
    simp only [Scp.ok, Bool.and_eq_true, Bool.not_eq_true', beq_eq_false_iff_ne] at hok
    obtain ⟨⟨⟨hn, hrd⟩, hrest⟩, hoth⟩ := hok
    obtain ⟨n, rfl⟩ : ∃ m, n = m + 1 := ⟨n - 1, by omega⟩
    simp only [Nat.add_sub_cancel] at hrest
    unfold swScp at hs
    obtain ⟨hs, hs'⟩ := hs
    have hthis : wpOp P ops (KQ P o QQ K) i (wpAny P .any ops (KQ P o QQ K) n (listed.setIfInBounds i true)) a w := by
      cases hop' : ops.toList[i]? with
      | none => rw [hop'] at hs; exact hs.elim
      | some op =>
        rw [hop', obind_some] at hs
        have hop : ops[i]? = some op := by simpa using hop'
        unfold wpOp
        simp only [hop]
        cases hw : sWant ops.toList s.env op with
        | none => rw [hw] at hs; exact hs.elim
        | some b =>
        rw [hw, obind_some] at hs
        have hw' := sWant_wanted hr hw
        simp only [Array.toArray_toList] at hw'
        rw [hw']
        cases b with
        | false =>
          rw [SIf_false] at hs
          simp only [Bool.false_eq_true, if_false]
          exact (swScp_sound r n _ [] _ β _ w hrest hs.2 (hr.put hs.1 rfl)).1 rfl
        | true =>
          rw [SIf_true] at hs
          simp only [if_true]
          cases hq : sop P s.L.length (getL s.L) (seval s.env) op.op with
          | none => rw [hq] at hs; exact hs.elim
          | some q =>
            rw [hq, obind_some] at hs
            obtain ⟨hd, hob, hnext⟩ := hs
            obtain ⟨dst, opp, ty, pos, af, g⟩ := op
            obtain ⟨nx, y, w', β', hrun, hnx, hy, hout, _⟩ := sop_does (dst := dst) (ty := ty) (pos := pos) (af := af) (g := g) (P := P) (ρ := a.eval) (loc_of hr) (fun x => eval_rel hr x) hq hob
            have hr' := hr.step hd hy hout
            refine .inl (stepTo_wp ?_)
            unfold stepTo
            rw [hrun]
            rcases hnx with rfl | ⟨rfl, rfl⟩
            · exact (swScp_sound r n _ [] _ β' _ w' hrest hnext hr').1 rfl
            · exact (swScp_sound r n _ [] _ β' _ w' hrest hnext hr').1 rfl
    have hrest2 := swScp_sound o' (n + 1) listed (i :: seen) s β a w hoth hs' hr
    refine ⟨fun e => ⟨fun h0 => ?_, fun j hj => ?_⟩, fun m hm j hj hns => ?_⟩
    · rw [h0] at hrd
      simp at hrd
    · by_cases e' : j = i
      · subst e'; exact hthis
      · exact hrest2.2 n rfl j hj ⟨by simp, by simp [e', e]⟩
    · obtain rfl : m = n := by omega
      by_cases e' : j = i
      · subst e'; exact hthis
      · exact hrest2.2 m rfl j hj ⟨by simp, by simp [e', hns.2]⟩
  | .pan i o', n, listed, seen, s, β, a, w, hok, hs, hr => by
    simp only [Scp.ok, Bool.and_eq_true, Bool.not_eq_true', beq_eq_false_iff_ne] at hok
    obtain ⟨⟨hn, hrd⟩, hoth⟩ := hok
    obtain ⟨n, rfl⟩ : ∃ m, n = m + 1 := ⟨n - 1, by omega⟩
    unfold swScp at hs
    obtain ⟨hs, hs'⟩ := hs
    have hthis : wpOp P ops (KQ P o QQ K) i (wpAny P .any ops (KQ P o QQ K) n (listed.setIfInBounds i true)) a w := by
      cases hop' : ops.toList[i]? with
      | none => rw [hop'] at hs; exact hs.elim
      | some op =>
        rw [hop', obind_some] at hs
        have hop : ops[i]? = some op := by simpa using hop'
        unfold wpOp
        simp only [hop]
        rw [if_pos (by simp [Region.wanted, hs.1])]
        exact .inl (hs.2 o β a w K _ hr)
    have hrest2 := swScp_sound o' (n + 1) listed (i :: seen) s β a w hoth hs' hr
    refine ⟨fun e => ⟨fun h0 => ?_, fun j hj => ?_⟩, fun m hm j hj hns => ?_⟩
    · rw [h0] at hrd
      simp at hrd
    · by_cases e' : j = i
      · subst e'; exact hthis
      · exact hrest2.2 n rfl j hj ⟨by simp, by simp [e', e]⟩
    · obtain rfl : m = n := by omega
      by_cases e' : j = i
      · subst e'; exact hthis
      · exact hrest2.2 m rfl j hj ⟨by simp, by simp [e', hns.2]⟩
theorem Sem.drawPan {id : Nat} (hm : P.follows .mixedOrders = true) (t : Scp) (hok : t.ok ops ops.size (Array.replicate ops.size false) [] = true) (h : swScp P QQ ops.toList t s) : Sem P QQ (.code (.region id ops true) :: K) s := by
  intro o β a w hr
  show (Code.region id ops true).wp P (KQ P o QQ K) a w
  have hr1 : RR o β s a { w with drawn := w.drawn + 1 } :=
    ⟨hr.size, hr.env, RelH.same (w := w) rfl hr.heap, hr.keep.trans (Keep.same rfl rfl rfl rfl), hr.base, hr.blen, hr.same, hr.defers⟩
  exact wp_region_any hm ((swScp_sound t ops.size _ [] s β a _ hok h hr1).1 rfl)
theorem OpPan.call {op : Oper} {fo : Operand} {argos : Array Operand} {ats : Array TypeId} {f : FuncId} (l : List Nat) (hcal : Cal P f) {ac : List SV} {Lc : List (Option SK)} {x : SV}
    (hc : SCall P f ac Lc fun r L => r = .pan x) (hx : ∀ ρ, x.ren ρ = x) (hop : op.op = .call ⟨.value fo, argos, ats⟩) (hfv : seval s.env fo = .fn (.func f) [] [])
    (hargs : EntL nofz (rho l s.L.length) ac (argos.toList.map (seval s.env))) (hnd : nodupN l = true) (hL : wkL nofz (rho l s.L.length) s.L l Lc) (h : ∀ s', QQ (.panic x) s') : OpPan P QQ op s := by
  obtain ⟨fn, hfn, hbody, hname⟩ := hcal
  have hnd := nodupN_spec hnd
  intro o β a w K next hr
  have hf := eval_rel hr fo
  rw [hfv] at hf
  obtain ⟨c1, c2, hfe, hfi, hca⟩ := hf
  have hrun : (execOp a.eval op).run P w = .ok (.enter f (c1 ++ argos.map a.eval ++ c2)) w := by
    have hn : fn.body.isNone = false := by cases hb : fn.body <;> simp [hb] at hbody ⊢
    simp only [execOp, hop, resolve, Deferred.ofValue, hfe, Sem.run_bind, Sem.run_pure, Result.andThen_ok, invoke, callFunc, run_program, hfn, hname, hn, Bool.false_eq_true, if_false]
  unfold Oper.wp
  rw [hrun, Oper.upon_enter]
  have hrelA : RelL β (argos.toList.map (seval s.env)) (c1 ++ argos.map a.eval ++ c2).toList := by
    have h1 : RelL β (argos.toList.map (seval s.env)) (argos.toList.map a.eval) := relL_map (fun x => eval_rel hr x) _
    have := (hfi.append h1).append hca
    simpa using this
  refine (hc w _ _ (hr.heap.view hnd hL) (EntL.rel (Ren.of_ren (w := w) _) _ _ _ hargs hrelA)).mono fun e w' ⟨β', L', r, hR, hrel, hh, hk, hlen', hsame⟩ => ?_
  obtain ⟨β2, hr2, hren, _⟩ := hr.called hnd hL hh hk hlen' hsame
  subst hR
  obtain ⟨v, rfl, hv⟩ := hrel
  exact panic_KQ K a w' ⟨β2, _, .panic x, ⟨v, rfl, by rw [← hx (rho l s.L.length)]; exact RelV.ren hren x v hv⟩, h _, hr2⟩
theorem swScp_non (ops : List Oper) : swScp P QQ ops .non s = True := Eq.trans rfl rfl
theorem swScp_alt (ops : List Oper) (i : Nat) (r o' : Scp) : swScp P QQ ops (.alt i r o') s = (obind ops[i]? (fun o => obind (sWant ops s.env o) (fun b => SIf b
      (obind (sop P s.L.length (getL s.L) (seval s.env) o.op) (fun q => dstOk s o.dst ∧ q.ob ∧ swScp P QQ ops r (s.step o.dst q)) False ⟨⟩)
      (dstOk s o.dst ∧ swScp P QQ ops r (s.put o.dst (.v undef))) ⟨⟩) False ⟨⟩) False ⟨⟩ ∧ swScp P QQ ops o' s) := Eq.trans rfl rfl
theorem swScp_pan (ops : List Oper) (i : Nat) (o' : Scp) : swScp P QQ ops (.pan i o') s = (obind ops[i]? (fun o => o.guard = none ∧ OpPan P QQ o s) False ⟨⟩ ∧ swScp P QQ ops o' s) := Eq.trans rfl rfl
end
end Go.SL
namespace Go.SL
open Go
set_option linter.unusedVariables false
section
variable {P : Program} {Q : SX → St → Prop} {K : List It} {s : St} {o : Org} {β : Bt} {a : Act} {w : World}
theorem sq_ends {fn : Func} {R : SE → List (Option SK) → Prop} (hq : SQ P fn R .ret s) (hr' : RR o β s a w) :
    ∃ v, (results fn a.tmps).run P w = .ok v w ∧ ∃ β2 L' r, R r L' ∧ SE.rel β2 r (.returned v) ∧ RelH w β2 L' ∧ Keep o.w o.β o.L w β2 L' ∧ o.L.length ≤ L'.length ∧ ∀ i, i < o.L.length → β2 i = o.β i := by
  obtain ⟨vs, p, hv, hp, l, x, L2, hx, hw, hR⟩ := hq
  obtain ⟨β2, hr2, hren⟩ := hr'.weakenE hw
  let f : ResultVar → Go.Sem Value := fun
    | .tmp t => pure (a.tmps.getD t undef)
    | .cell b t => do loadVar t (← asAddr (a.tmps.getD b undef))
  obtain ⟨ys, hys, hrel⟩ := sresL_run hr' (f := f) (fun _ => rfl) (fun _ _ => rfl) _ vs p hv hp
  have hlen := hrel.length
  have hm : (fn.results.mapM f).run P w = .ok ys.toArray w := by
    rw [Array.mapM_eq_mapM_toList]
    simp only [Sem.run_map, hys, Result.andThen_ok]
  have hres : results fn a.tmps = (do let vs ← fn.results.mapM f; pure (if h : vs.size = 1 then vs[0] else .tuple vs)) := by
    unfold results
    congr 2
  have hb1 := hr2.base
  have hb2 := hr2.blen
  refine ⟨if h : ys.toArray.size = 1 then ys.toArray[0] else .tuple ys.toArray, ?_, _, L2, .ret x, hR, ⟨_, rfl, Ent.rel hren x _ _ hx ?_⟩, hr2.heap, hr2.keep, ?_, fun i hi => ?_⟩
  · rw [hres]
    simp only [Sem.run_bind, hm, Result.andThen_ok, Sem.run_pure]
  · match vs, ys, hrel, hlen with
    | [x], [y], ⟨y', r', e, hx, _⟩, _ =>
      cases e
      simpa [SV.ofResults] using hx
    | [], ys, hrel, hlen =>
      cases hrel
      exact ⟨#[], by simp [], trivial⟩
    | x1 :: x2 :: xs, ys, hrel, hlen =>
      have : ¬ ys.toArray.size = 1 := by simp at hlen ⊢; omega
      rw [dif_neg this]
      exact ⟨_, rfl, by simpa [SV.ofResults] using relT_of_L hrel⟩
  · have h1 : s.base = o.L.length := hb1
    have h2 : s.base ≤ L2.length := hb2
    omega
  · exact hr2.same i (by rw [hb1]; exact hi)
def DMode (β : Bt) (x : Option SV) (u : FrameMode) : Prop :=
  match x with
  | none => u = .returning
  | some x => ∃ v, u = .panicking [{ v, recovered := false }] ∧ RelV β x v
def DCall (P : Program) (g : FuncId) (args : List SV) (L : List (Option SK)) (x : Option SV) (L' : List (Option SK)) : Prop :=
  ∀ w β (cargs : Array Value) (u : FrameMode), RelH w β L → RelL β args cargs.toList → DMode β x u →
    CallsD P g cargs u w fun e u' w' => (∃ v, e = .returned v) ∧ settle u' = .returning ∧ ∃ β', RelH w' β' L' ∧ Keep w β L w' β' L' ∧ L.length ≤ L'.length ∧ ∀ i, i < L.length → β' i = β i
def EntO (ρ : Nat → Nat) : Option SV → Option SV → Prop
  | none, none => True
  | some x, some y => Ent nofz ρ x y
  | _, _ => False
theorem EntO.mode {ρ : Nat → Nat} {u : FrameMode} : ∀ {x y : Option SV}, EntO ρ x y → DMode β y u → DMode (β.ren ρ) x u
  | none, none, _, h => h
  | some x, some y, e, ⟨v, h1, h2⟩ => ⟨v, h1, Ent.rel (Ren.of_ren (w := default) _) _ _ _ e h2⟩
  | none, some _, h, _ => h.elim
  | some _, none, h, _ => h.elim
def QD1 (P : Program) (fn : Func) (g : FuncId) (caps : List SV) (R : SE → List (Option SK) → Prop) (y : Option SV) (s : St) : Prop :=
  ∃ l ac Lc y' L1, EntL nofz (rho l s.L.length) ac caps ∧ l.Nodup ∧ wkL nofz (rho l s.L.length) s.L l Lc ∧ EntO (rho l s.L.length) y' y ∧ DCall P g ac Lc y' L1 ∧ SQ P fn R .ret (s.after l Lc L1)
def QD (P : Program) (fn : Func) (g : FuncId) (caps : List SV) (R : SE → List (Option SK) → Prop) : SX → St → Prop
  | .panic x, s => QD1 P fn g caps R (some x) s
  | .exit _, _ => False
  | .goto _, _ => False
  | _, s => QD1 P fn g caps R none s
def DefSem (P : Program) (fn : Func) (R : SE → List (Option SK) → Prop) (ops : Array Oper) (B : Code) (s : St) : Prop :=
  ∃ (op0 op1 : Oper) (t : Tmp) (g : FuncId) (ca : Array Operand) (ats : Array TypeId), ops = #[op0, op1] ∧ op0.op = .makeFunc (.func g) #[] ca ∧ op0.guard = none ∧ op0.dst = some t ∧ op1.op = .defer ⟨.value (.tmp t), #[], ats⟩ ∧ op1.guard = none ∧
    t < s.sz ∧ dstOk s op1.dst ∧ Cal P g ∧ Sem P (QD P fn g (ca.toList.map (seval s.env)) R) [.code B] { ({ s with env := (t, .fn (.func g) [] (ca.toList.map (seval s.env))) :: s.env }).put op1.dst (.v undef) with base := s.L.length }
theorem SCall.mkDefer {f : FuncId} {fn : Func} {A B : Code} {id : Nat} {ops : Array Oper} {args : List SV} {L : List (Option SK)} {R : SE → List (Option SK) → Prop} (hf : P.funcs[f]? = some fn)
    (hb : fn.body = some (.seq A (.seq (.region id ops false) B))) (hn : args.length ≤ fn.ntmps)
    (h : Sem P (fun _ _ => False) [.code A, .inv (DefSem P fn R ops B)] ⟨fn.ntmps, L.length, envOf 0 args, L⟩) : SCall P f args L R := by
  intro w β cargs hh ha
  refine calls_of_wp_defers hf hb ?_
  have hl := ha.length
  simp only [Array.length_toList] at hl
  let a0 : Act := { tmps := cargs ++ Array.replicate (fn.ntmps - cargs.size) undef, defers := [] }
  have hr : RR ⟨w, β, L, []⟩ β ⟨fn.ntmps, L.length, envOf 0 args, L⟩ a0 w := by
    refine ⟨by simp [a0]; omega, ?_, hh, Keep.refl _ _ _, rfl, Nat.le_refl _, fun _ _ => rfl, rfl⟩
    refine envOf_rel 0 args cargs.toList ha fun i v hv => ?_
    have hi : i < cargs.size := by have := (List.getElem?_eq_some_iff.1 hv).1; simpa using this
    have hv' : cargs[i]? = some v := by simpa using hv
    simp only [a0, Nat.zero_add, Array.getD_eq_getD_getElem?]
    rw [Array.getElem?_append_left hi, hv']
    rfl
  have h0 : A.wp P (KQ P ⟨w, β, L, []⟩ (fun _ _ => False) [.inv (DefSem P fn R ops B)]) a0 w := h ⟨w, β, L, []⟩ β a0 w hr
  refine wp_seq (wp_mono h0 fun e a1 w1 hq => ?_)
  cases e with
  | exit id => obtain ⟨_, _, _, _, h, _⟩ := hq; exact h.elim
  | goto l => obtain ⟨_, _, _, _, h, _⟩ := hq; exact h.elim
  | ret => obtain ⟨_, _, _, _, h, _⟩ := hq; exact h.elim
  | panic ch => obtain ⟨_, _, _, _, h, _⟩ := hq; exact h.elim
  | outgrown => obtain ⟨_, _, _, _, h, _⟩ := hq; exact h.elim
  | normal =>
    obtain ⟨β1, s1, ⟨op0, op1, t, g, ca, ats, hops, ho0, hg0, hd0, ho1, hg1, ht, hd1, hcal, hB⟩, hr1⟩ := hq
    obtain ⟨gn, hgn, hbody, hname⟩ := hcal
    refine wp_seq (wp_region_list ?_)
    subst hops
    let capv : Array Value := ca.map a1.eval
    let fnv : Value := .func (.func g) #[] capv
    have hrun0 : (execOp a1.eval op0).run P w1 = .ok (.value fnv) w1 := by
      simp [execOp, ho0, Instr.makeFunc, fnv, capv]
    let a1' := a1.put op0.dst fnv
    have hsz : a1.tmps.size = s1.sz := hr1.size
    have hev : a1'.eval (.tmp t) = fnv := by
      show (a1.put op0.dst fnv).tmps.getD t undef = fnv
      rw [hd0]
      simp only [Act.put, Array.getD_eq_getD_getElem?]
      have hts : t < a1.tmps.size := by rw [hsz]; exact ht
      rw [Array.getElem?_setIfInBounds_self_of_lt hts]
      rfl
    let d : Deferred := { target := .fn (.func g) capv, args := #[] }
    have hcaps : RelL β1 (ca.toList.map (seval s1.env)) capv.toList := by
      have := relL_map (fun x => eval_rel hr1 x) ca.toList
      simpa [capv] using this
    have hn0 : gn.body.isNone = false := by cases hb : gn.body <;> simp [hb] at hbody ⊢
    have hinv : ∀ w, (invoke (.fn (.func g) capv) #[]).run P w = .ok (.enter g capv) w := by
      intro w
      simp only [invoke, callFunc, Sem.run_bind, run_program, Result.andThen_ok, hgn, hname, hn0, Bool.false_eq_true, if_false, Sem.run_pure, Array.empty_append]
    have hrun1 : (execOp a1'.eval op1).run P w1 = .ok (.defer d) w1 := by
      simp [execOp, ho1, resolve, hev, fnv, Deferred.ofValue, d]
    show wpList P #[op0, op1] _ [op0, op1] a1 w1
    unfold wpList
    rw [if_pos (by simp [Region.wanted, hg0])]
    left
    unfold Oper.wp
    rw [hrun0, Oper.upon_value]
    unfold wpList
    rw [if_pos (by simp [Region.wanted, hg1])]
    left
    unfold Oper.wp
    rw [hrun1, Oper.upon_defer]
    unfold wpList
    have hr1' : RR ⟨w, β, L, []⟩ β1 { s1 with env := (t, .fn (.func g) [] (ca.toList.map (seval s1.env))) :: s1.env } a1' w1 := by
      have := hr1.put (dst := some t) (x := .fn (.func g) [] (ca.toList.map (seval s1.env))) (y := fnv) (fun d hd => by cases hd; exact ht) ⟨#[], capv, rfl, rfl, hcaps⟩
      show RR _ _ _ (a1.put op0.dst fnv) w1
      rw [hd0]
      exact this
    let a2 : Act := ({ a1' with defers := d :: a1'.defers } : Act).put op1.dst undef
    let s2 : St := { ({ s1 with env := (t, .fn (.func g) [] (ca.toList.map (seval s1.env))) :: s1.env }).put op1.dst (.v undef) with base := s1.L.length }
    have hr2 : RR ⟨w1, β1, s1.L, [d]⟩ β1 s2 a2 w1 := by
      have hp := hr1'.put (dst := op1.dst) (x := .v undef) (y := undef) hd1 rfl
      have hL2 : s2.L = s1.L := by
        show (St.put _ op1.dst _).L = _
        cases op1.dst <;> rfl
      have ht2 : a2.tmps = (a1'.put op1.dst undef).tmps := by
        show (Act.put _ op1.dst _).tmps = _
        cases op1.dst <;> rfl
      have hd2 : a2.defers = [d] := by
        have h1 : a2.defers = d :: a1'.defers := by
          show (Act.put _ op1.dst _).defers = _
          cases op1.dst <;> rfl
        rw [h1, hr1'.defers]
      refine ⟨by rw [ht2]; exact hp.size, fun n => by rw [ht2]; exact hp.env n, by rw [hL2]; exact hr1.heap, by rw [hL2]; exact Keep.refl _ _ _, rfl, by rw [hL2]; exact Nat.le_refl _, fun _ _ => rfl, hd2⟩
    have h2 : B.wp P (KQ P ⟨w1, β1, s1.L, [d]⟩ (QD P fn g (ca.toList.map (seval s1.env)) R) []) a2 w1 := hB ⟨w1, β1, s1.L, [d]⟩ β1 a2 w1 hr2
    refine wp_mono h2 fun e a3 w3 hq3 => ?_
    obtain ⟨β3, s3, x, hx, hQ, hr3⟩ := hq3
    have key : ∀ (y : Option SV) (u : FrameMode), u ≠ .run → DMode β3 y u → QD1 P fn g (ca.toList.map (seval s1.env)) R y s3 →
        Leaves P fn a3.tmps (fun e w' => ∃ β' L' r, R r L' ∧ SE.rel β' r e ∧ RelH w' β' L' ∧ Keep w β L w' β' L' ∧ L.length ≤ L'.length ∧ ∀ i, i < L.length → β' i = β i) a3.defers u w3 := by
      intro y u hu hm ⟨l, ac, Lc, y', L1, hent, hnd, hL, hy, hdc, hsq⟩
      rw [hr3.defers]
      refine leaves_cons hu (hinv w3) ?_
      have hle : β1.le β3 := by
        refine ⟨fun b p hb => ?_, hr3.keep.mle⟩
        have hlt : b < s1.L.length := by
          rcases Nat.lt_or_ge b s1.L.length with h | h
          · exact h
          · rw [hr1.heap.out b h] at hb; cases hb
        rw [hr3.same b (by rw [hr3.base]; exact hlt)]
        exact hb
      have hc3 : RelL β3 (ca.toList.map (seval s1.env)) capv.toList := hcaps.mono hle
      have hcall := hdc w3 (β3.ren (rho l s3.L.length)) capv u (hr3.heap.view hnd hL) (EntL.rel (Ren.of_ren (w := w3) _) _ _ _ hent hc3) (hy.mode hm)
      refine hcall.mono fun e u' w4 h4 => ?_
      obtain ⟨⟨v, rfl⟩, hset, β4, hh4, hk4, hlen4, hsame4⟩ := h4
      obtain ⟨β5, hr5, _, _⟩ := hr3.called hnd hL hh4 hk4 hlen4 hsame4
      obtain ⟨v6, hv6, β6, L6, r6, hR6, hrel6, hh6, hk6, hlen6, hsame6⟩ := sq_ends hsq hr5
      show Leaves P fn a3.tmps _ [] (settle u') w4
      rw [hset]
      have hbase : s1.base = L.length := hr1.base
      have hblen := hr1.blen
      refine ⟨v6, hv6, β6, L6, r6, hR6, hrel6, hh6, hr1.keep.trans hk6, ?_, fun i hi => ?_⟩
      · have h7 : s1.L.length ≤ L6.length := hlen6
        omega
      · have h8 : β6 i = β1 i := hsame6 i (show i < s1.L.length by omega)
        rw [h8]
        exact hr1.same i (by rw [hbase]; exact hi)
    cases x with
    | normal => cases hx; exact key none .returning (by simp) rfl hQ
    | ret => cases hx; exact key none .returning (by simp) rfl hQ
    | exit id => exact hQ.elim
    | goto l => exact hQ.elim
    | panic x =>
      obtain ⟨v, rfl, hv⟩ := hx
      exact key (some x) (.panicking [{ v, recovered := false }]) (by simp) ⟨v, rfl, hv⟩ hQ
end
end Go.SL
namespace Go.SL
open Go
set_option linter.unusedVariables false
section
variable {P : Program} {Q : SX → St → Prop} {K : List It} {s : St} {o : Org} {β : Bt} {a : Act} {w : World}
def recv : Option SV → SV
  | none => .v .nilIface
  | some x => x
theorem DCall.mk {g : FuncId} {gn : Func} {id : Nat} {op0 op1 : Oper} {C : Code} {t t2 : Tmp} {ats : Array TypeId} {args : List SV} {L L' : List (Option SK)} {x : Option SV} (hf : P.funcs[g]? = some gn) (hb : gn.body = some (.seq (.region id #[op0, op1] false) C))
    (hop : op0.op = .call ⟨.builtin .recover, #[], ats⟩) (hg : op0.guard = none) (hd : op0.dst = some t) (ht : t < gn.ntmps)
    (hop1 : op1.op = .assign (.tmp t)) (hg1 : op1.guard = none) (hd1 : op1.dst = some t2) (ht2 : t2 < gn.ntmps) (hn : args.length ≤ gn.ntmps)
    (h : Sem P (SQ P gn fun r M => (∃ y, r = .ret y) ∧ M = L') [.code C] ⟨gn.ntmps, L.length, (t2, recv x) :: (t, recv x) :: envOf 0 args, L⟩) : DCall P g args L x L' := by
  intro w β cargs u hh ha hm
  refine callsD_of_wpS hf hb fun c₀ cs hc => ?_
  have hl := ha.length
  simp only [Array.length_toList] at hl
  let a0 : Act := { tmps := cargs ++ Array.replicate (gn.ntmps - cargs.size) undef, defers := [] }
  have hr : RR ⟨w, β, L, []⟩ β ⟨gn.ntmps, L.length, envOf 0 args, L⟩ a0 w := by
    refine ⟨by simp [a0]; omega, ?_, hh, Keep.refl _ _ _, rfl, Nat.le_refl _, fun _ _ => rfl, rfl⟩
    refine envOf_rel 0 args cargs.toList ha fun i v hv => ?_
    have hi : i < cargs.size := by have := (List.getElem?_eq_some_iff.1 hv).1; simpa using this
    have hv' : cargs[i]? = some v := by simpa using hv
    simp only [a0, Nat.zero_add, Array.getD_eq_getD_getElem?]
    rw [Array.getElem?_append_left hi, hv']
    rfl
  refine wpS_seq (wpS_region ?_)
  have hrun : (execOp a0.eval op0).run P w = .ok .recover w := by
    simp only [execOp, hop, resolve, Sem.run_bind, Sem.run_pure, Result.andThen_ok, invoke, builtin]
  have rest : ∀ (u' : FrameMode) (y : Value), RelV β (recv x) y → settle u' = .returning →
      C.wpS P (bodyPostS P gn c₀ cs fun e u' w' => (∃ v, e = .returned v) ∧ settle u' = .returning ∧ ∃ β', RelH w' β' L' ∧ Keep w β L w' β' L' ∧ L.length ≤ L'.length ∧ ∀ i, i < L.length → β' i = β i) ((a0.put op0.dst y).put op1.dst y) ({ c₀ with mode := u' } :: cs) w := by
    intro u' y hy hset
    refine wpS_of_wp ?_
    have hr1 : RR ⟨w, β, L, []⟩ β ⟨gn.ntmps, L.length, (t2, recv x) :: (t, recv x) :: envOf 0 args, L⟩ ((a0.put op0.dst y).put op1.dst y) w := by
      have h1 := hr.put (dst := some t) (x := recv x) (y := y) (fun d hd => by cases hd; exact ht) hy
      have h2 := h1.put (dst := some t2) (x := recv x) (y := y) (fun d hd => by cases hd; exact ht2) hy
      rw [hd, hd1]
      exact h2
    have h0 : C.wp P (KQ P ⟨w, β, L, []⟩ (SQ P gn fun r M => (∃ y, r = .ret y) ∧ M = L') []) ((a0.put op0.dst y).put op1.dst y) w := h ⟨w, β, L, []⟩ β _ w hr1
    refine wp_mono h0 fun e a' w' hq => ?_
    obtain ⟨β', s', x', hx, hQ, hr'⟩ := hq
    have ends : SQ P gn (fun r M => (∃ y, r = .ret y) ∧ M = L') .ret s' → a'.defers = [] ∧ ∃ u'', { c₀ with mode := u' } :: cs = { c₀ with mode := u'' } :: cs ∧ ∃ v, (results gn a'.tmps).run P w' = .ok v w' ∧
        ((∃ v', Ending.returned v = .returned v') ∧ settle u'' = .returning ∧ ∃ β', RelH w' β' L' ∧ Keep w β L w' β' L' ∧ L.length ≤ L'.length ∧ ∀ i, i < L.length → β' i = β i) := by
      intro hq
      obtain ⟨v, hv, β2, L2, r, ⟨hy2, rfl⟩, hrel, hh2, hk2, hlen2, hsame2⟩ := sq_ends hq hr'
      exact ⟨hr'.defers, u', rfl, v, hv, ⟨v, rfl⟩, hset, β2, hh2, hk2, hlen2, hsame2⟩
    cases x' with
    | normal => cases hx; exact ends hQ
    | ret => cases hx; exact ends hQ
    | exit id => exact hQ.elim
    | goto l => exact hQ.elim
    | panic x' => obtain ⟨⟨y, hy⟩, _⟩ := hQ; cases hy
  have hsz : t < a0.tmps.size := by rw [hr.size]; exact ht
  have hrun1 : ∀ y : Value, (execOp (a0.put op0.dst y).eval op1).run P w = .ok (.value y) w := by
    intro y
    have hev : (a0.put op0.dst y).eval (.tmp t) = y := by
      show (a0.put op0.dst y).tmps.getD t undef = y
      rw [hd]
      simp only [Act.put, Array.getD_eq_getD_getElem?]
      rw [Array.getElem?_setIfInBounds_self_of_lt hsz]
      rfl
    simp only [execOp, hop1, hev, Sem.run_pure]
  show wpOpsS P #[op0, op1] _ [0, 1] a0 (c₀ :: cs) w
  have hc0 : ({ c₀ with mode := u } : Frame) = c₀ := by subst hc; rfl
  cases x with
  | none =>
    have hm : u = .returning := hm
    subst hm
    have hrec : recoverD (c₀ :: cs) = none := by simp [recoverD, hc]
    simp only [wpOpsS, List.getElem?_toArray, List.getElem?_cons_zero, List.getElem?_cons_succ, Region.wanted, hg, hg1, if_true, hrun, hrec, hrun1, Oper.upon_value]
    have := rest .returning .nilIface rfl rfl
    rw [hc0] at this
    exact this
  | some x =>
    obtain ⟨v, rfl, hv⟩ := hm
    have hrec : recoverD (c₀ :: cs) = some (v, { c₀ with mode := .panicking [{ v, recovered := true }] } :: cs) := by simp [recoverD, hc]
    simp only [wpOpsS, List.getElem?_toArray, List.getElem?_cons_zero, List.getElem?_cons_succ, Region.wanted, hg, hg1, if_true, hrun, hrec, hrun1, Oper.upon_value]
    exact rest (.panicking [{ v, recovered := true }]) v hv rfl
end
end Go.SL
namespace Go.SL
open Go
set_option linter.unusedVariables false
theorem getL_merge (ρ : Nat → Nat) (i : Nat) (K : SK) : ∀ (l : List Nat) (L Lc L' : List (Option SK)), i ∉ l → getL L i = some K → getL (mergeL ρ L l Lc L') i = some K
  | [], L, Lc, L', _, h => by
    have e : mergeL ρ L [] Lc L' = L ++ L'.map (Option.map (SK.ren ρ)) := by simp [mergeL]
    rw [e, getL_some, List.getElem?_append_left]
    · exact getL_some.1 h
    · exact (List.getElem?_eq_some_iff.1 (getL_some.1 h)).1
  | j :: l, L, [], L', _, h => by
    have e : mergeL ρ L (j :: l) [] L' = L ++ L'.map (Option.map (SK.ren ρ)) := by simp [mergeL]
    rw [e, getL_some, List.getElem?_append_left]
    · exact getL_some.1 h
    · exact (List.getElem?_eq_some_iff.1 (getL_some.1 h)).1
  | j :: l, L, K1 :: Lc, [], _, h => by
    have e : mergeL ρ L (j :: l) (K1 :: Lc) [] = L ++ ([] : List (Option SK)).map (Option.map (SK.ren ρ)) := by simp [mergeL]
    rw [e, List.map_nil, List.append_nil]
    exact h
  | j :: l, L, some K1 :: Lc, K' :: L', hi, h => by
    rw [mergeL]
    refine getL_merge ρ i K l _ Lc L' (fun hh => hi (List.mem_cons_of_mem _ hh)) ?_
    split
    · have hne : j ≠ i := fun e => hi (by rw [e]; exact List.mem_cons_self)
      unfold getL
      rw [List.getElem?_set_ne hne]
      exact h
    · exact h
  | j :: l, L, none :: Lc, K' :: L', hi, h => by
    rw [mergeL]
    exact getL_merge ρ i K l L Lc L' (fun hh => hi (List.mem_cons_of_mem _ hh)) h
section
variable {P : Program} {Q QQ : SX → St → Prop} {K : List It} {s : St}
theorem SemOps.callPanL {all rest : List Oper} {op : Oper} {fo : Operand} {argos : Array Operand} {ats : Array TypeId} {f : FuncId} (l : List Nat) (hcal : Cal P f) {ac : List SV} {Lc : List (Option SK)} {x : SV}
    (hc : SCall P f ac Lc fun r L => r = .pan x) (hx : ∀ ρ, x.ren ρ = x) (hop : op.op = .call ⟨.value fo, argos, ats⟩) (hg : op.guard = none) (hfv : seval s.env fo = .fn (.func f) [] [])
    (hargs : EntL nofz (rho l s.L.length) ac (argos.toList.map (seval s.env))) (hnd : nodupN l = true) (hL : wkL nofz (rho l s.L.length) s.L l Lc) (hd : dstOk s op.dst) (h : ∀ L', Q (.panic x) (s.after l Lc L')) : SemOps P Q all (op :: rest) K s := by
  refine SemOps.callE hop hg hfv hcal l hc (by simpa using hargs) (nodupN_spec hnd) hL hd (fun r L' h => nomatch h) (fun y L' hy => ?_)
  injection hy with hy
  rw [hy, hx]
  exact h _
end
end Go.SL
namespace Go.SL
open Go
set_option linter.unusedVariables false
section
variable {P : Program} {Q : SX → St → Prop} {K : List It} {s : St}
theorem sBin_ii (op : BinOp) (t : TypeId) : sBin P op t (.v .nilIface) (.v .nilIface) = none := by
  simp only [sBin, nilEq]
  cases P.underlying t with
  | none => rfl
  | some d => cases d <;> rfl
def nnB : BinOp → Option Bool
  | .eql => some true
  | .neq => some false
  | _ => none
theorem equalIn_nn {t : TypeId} {ms : Array (String × TypeId)} (d : Nat) (h : P.underlying t = some (.interface ms)) (w : World) : (Op.equalIn (d + 1) t .nilIface .nilIface).run P w = .ok true w := by
  simp only [Op.equalIn, Sem.run_bind, run_underlying h, Result.andThen_ok, Sem.run_pure]
theorem equal_nn {t : TypeId} {ms : Array (String × TypeId)} (h : P.underlying t = some (.interface ms)) (w : World) : (Op.equal t .nilIface .nilIface).run P w = .ok true w := equalIn_nn 9999 h w
theorem nn_run {ρ : Operand → Value} {op : Oper} {bo : BinOp} {b : Bool} {t k : TypeId} {ms : Array (String × TypeId)} {x : Operand} (hop : op.op = .binOp bo t x (.const .nilIface) k) (hb : nnB bo = some b) (hu : P.underlying t = some (.interface ms)) (hx : ρ x = .nilIface) (hc : ρ (.const .nilIface) = .nilIface) (w : World) :
    (execOp ρ op).run P w = .ok (.value (.bool b)) w := by
  have heq := equal_nn hu w
  cases bo <;> simp only [nnB, Option.some.injEq, reduceCtorEq] at hb
  · subst hb
    simp [execOp, hop, hx, hc, eqGuard, binOp, heq]
  · subst hb
    simp [execOp, hop, hx, hc, eqGuard, binOp, heq]
theorem SemOps.nn {all rest : List Oper} {op : Oper} {bo : BinOp} {b : Bool} {t k : TypeId} {x : Operand} {ms : Array (String × TypeId)} (hop : op.op = .binOp bo t x (.const .nilIface) k) (hg : op.guard = none) (hb : nnB bo = some b) (hu : P.underlying t = some (.interface ms))
    (hx : seval s.env x = .v .nilIface) (hd : dstOk s op.dst) (next : SemOps P Q all rest K (s.put op.dst (.v (.bool b)))) : SemOps P Q all (op :: rest) K s := by
  intro o β a w hr
  unfold wpList
  rw [if_pos (by simp [Region.wanted, hg])]
  left
  have hv := eval_rel hr x
  rw [hx] at hv
  unfold Oper.wp
  rw [nn_run (ρ := a.eval) hop hb hu hv rfl, Oper.upon_value]
  exact next o β _ w (hr.put hd rfl)
theorem OpSem.nn {op : Oper} {N : St → Prop} {bo : BinOp} {b : Bool} {t k : TypeId} {x : Operand} {ms : Array (String × TypeId)} (hop : op.op = .binOp bo t x (.const .nilIface) k) (hb : nnB bo = some b) (hu : P.underlying t = some (.interface ms))
    (hx : seval s.env x = .v .nilIface) (hd : dstOk s op.dst) (next : N (s.put op.dst (.v (.bool b)))) : OpSem P op N s := by
  intro o β a w hr
  have hv := eval_rel hr x
  rw [hx] at hv
  unfold stepTo
  rw [nn_run (ρ := a.eval) hop hb hu hv rfl]
  exact ⟨β, _, next, hr.put hd rfl, fun _ _ _ h => h⟩
end
end Go.SL
namespace Go.SL
open Go
set_option linter.unusedVariables false
def Meth (P : Program) (T : TypeId) (name : String) (f : FuncId) : Prop := ∀ (v : Value) (w : World), (method (P.types.size + Made.depth) T v name).run P w = .ok (f, v) w
theorem sop_inv {P : Program} {N : Nat} {get : Nat → Option SK} {ev : Operand → SV} (r : Operand) (n : String) (args : Array Operand) (ts : Array TypeId) : sop P N get ev (.call ⟨.invoke r n, args, ts⟩) = none := rfl
section
variable {P : Program} {Q : SX → St → Prop} {K : List It} {s : St}
theorem meth_run {op : Oper} {recv : Operand} {name : String} {ats : Array TypeId} {T : TypeId} {f : FuncId} {ρ : Operand → Value} {v : Value} {w : World} (hop : op.op = .call ⟨.invoke recv name, #[], ats⟩) (hx : ρ recv = .iface T v) (hm : Meth P T name f) (hcal : Cal P f) :
    (execOp ρ op).run P w = .ok (.enter f #[v]) w := by
  obtain ⟨fn, hfn, hbody, hname⟩ := hcal
  have hn : fn.body.isNone = false := by cases hb : fn.body <;> simp [hb] at hbody ⊢
  have hmm := hm v w
  have h1 : (resolve ρ ⟨.invoke recv name, #[], ats⟩ op.type).run P w = .ok ⟨.fn (.method name) #[], #[.iface T v]⟩ w := by simp [resolve, hx]
  have h3 : (callMethod (.iface T v) name #[]).run P w = .ok (.enter f #[v]) w := by
    have e : (#[v] ++ #[] : Array Value) = #[v] := by simp
    simp only [callMethod, callFunc, Sem.run_bind, Sem.run_pure, run_program, Result.andThen_ok, hmm, e, hfn, hname, hn, Bool.false_eq_true, if_false]
  have h2 : (invoke (.fn (.method name) #[]) #[.iface T v]).run P w = .ok (.enter f #[v]) w := h3
  simp only [execOp, hop, Sem.run_bind, h1, Result.andThen_ok]
  exact h2
theorem SemOps.callI {all rest : List Oper} {op : Oper} {recv : Operand} {name : String} {ats : Array TypeId} {T : TypeId} {f : FuncId} {x y : SV}
    (hop : op.op = .call ⟨.invoke recv name, #[], ats⟩) (hg : op.guard = none) (hx : seval s.env recv = .ifc T x) (hm : Meth P T name f) (hcal : Cal P f) (hc : Pure P f [x] y) (hxf : x.flat = true) (hyf : y.flat = true) (hd : dstOk s op.dst)
    (next : SemOps P Q all rest K (s.put op.dst y)) : SemOps P Q all (op :: rest) K s := by
  intro o β a w hr
  unfold wpList
  rw [if_pos (by simp [Region.wanted, hg])]
  left
  have hv := eval_rel hr recv
  rw [hx] at hv
  obtain ⟨v, hv1, hv2⟩ := hv
  unfold Oper.wp
  rw [meth_run hop hv1 hm hcal, Oper.upon_enter]
  have hL : wkL nofz (rho [] s.L.length) s.L [] [] := trivial
  have hrel : RelL (β.ren (rho [] s.L.length)) [x] #[v].toList := ⟨v, [], rfl, RelV.of_ren x v (by rw [SV.flat_ren _ x hxf]; exact hv2), rfl⟩
  refine (hc w _ _ (hr.heap.view List.nodup_nil hL) hrel).mono fun e w' ⟨β', L', r, ⟨hR1, hR2⟩, hrel', hh, hk, hlen', hsame⟩ => ?_
  subst hR1 hR2
  obtain ⟨β2, hr2, hren, _⟩ := hr.called List.nodup_nil hL hh hk hlen' hsame
  obtain ⟨u, rfl, hu⟩ := hrel'
  rw [after_nil] at hr2
  refine next o β2 _ w' (hr2.put hd ?_)
  have := RelV.ren hren y u hu
  rwa [SV.flat_ren _ y hyf] at this
theorem OpSem.callI {op : Oper} {N : St → Prop} {recv : Operand} {name : String} {ats : Array TypeId} {T : TypeId} {f : FuncId} {x y : SV}
    (hop : op.op = .call ⟨.invoke recv name, #[], ats⟩) (hx : seval s.env recv = .ifc T x) (hm : Meth P T name f) (hcal : Cal P f) (hc : Pure P f [x] y) (hxf : x.flat = true) (hyf : y.flat = true) (hd : dstOk s op.dst)
    (next : N (s.put op.dst y)) : OpSem P op N s := by
  intro o β a w hr
  have hv := eval_rel hr recv
  rw [hx] at hv
  obtain ⟨v, hv1, hv2⟩ := hv
  unfold stepTo
  rw [meth_run hop hv1 hm hcal]
  have hL : wkL nofz (rho [] s.L.length) s.L [] [] := trivial
  have hrel : RelL (β.ren (rho [] s.L.length)) [x] #[v].toList := ⟨v, [], rfl, RelV.of_ren x v (by rw [SV.flat_ren _ x hxf]; exact hv2), rfl⟩
  refine (hc w _ _ (hr.heap.view List.nodup_nil hL) hrel).mono fun e w' ⟨β', L', r, ⟨hR1, hR2⟩, hrel', hh, hk, hlen', hsame⟩ => ?_
  subst hR1 hR2
  obtain ⟨β2, hr2, hren, hle⟩ := hr.called List.nodup_nil hL hh hk hlen' hsame
  obtain ⟨u, rfl, hu⟩ := hrel'
  rw [after_nil] at hr2
  refine ⟨u, rfl, β2, _, next, hr2.put hd ?_, hle.m⟩
  have := RelV.ren hren y u hu
  rwa [SV.flat_ren _ y hyf] at this
end
end Go.SL
namespace Go.SL
open Go
mutual
def SV.nom : SV → Bool
  | .any => true
  | .v _ => true
  | .ptr _ _ _ => true
  | .slc _ _ _ => true
  | .asl _ _ _ _ => true
  | .agg l => SV.nomL l
  | .tup l => SV.nomL l
  | .ifc _ x => x.nom
  | .fn _ _ _ => false
  | .rsl _ _ => false
  | .rp _ _ => false
def SV.nomL : List SV → Bool
  | [] => true
  | x :: xs => x.nom && SV.nomL xs
end
mutual
theorem RelV.nom {β β' : Bt} (hb : ∀ i, β i = β' i) : ∀ (x : SV) (v : Value), x.nom = true → RelV β x v → RelV β' x v
  | .any, _, _, _ => trivial
  | .v _, _, _, r => r
  | .ptr b _ _, _, _, ⟨p, h1, h2⟩ => ⟨p, (hb b).symm.trans h1, h2⟩
  | .slc b _ _, _, _, ⟨p, a, c, h1, h2⟩ => ⟨p, a, c, (hb b).symm.trans h1, h2⟩
  | .asl b _ _ _, _, _, ⟨p, c, h1, h2⟩ => ⟨p, c, (hb b).symm.trans h1, h2⟩
  | .agg l, _, hn, ⟨cs, h1, h2⟩ => ⟨cs, h1, RelL.nom hb l cs.toList (by simpa [SV.nom] using hn) h2⟩
  | .tup l, _, hn, ⟨cs, h1, h2⟩ => ⟨cs, h1, RelT.nom hb l cs.toList (by simpa [SV.nom] using hn) h2⟩
  | .ifc _ x, _, hn, ⟨u, h1, h2⟩ => ⟨u, h1, RelV.nom hb x u (by simpa [SV.nom] using hn) h2⟩
  | .fn _ _ _, _, hn, _ => by simp [SV.nom] at hn
  | .rsl _ _, _, hn, _ => by simp [SV.nom] at hn
  | .rp _ _, _, hn, _ => by simp [SV.nom] at hn
theorem RelL.nom {β β' : Bt} (hb : ∀ i, β i = β' i) : ∀ (l : List SV) (vs : List Value), SV.nomL l = true → RelL β l vs → RelL β' l vs
  | [], _, _, r => r
  | x :: xs, _, hn, ⟨y, r, h1, h2, h3⟩ => by
    simp only [SV.nomL, Bool.and_eq_true] at hn
    exact ⟨y, r, h1, RelV.nom hb x y hn.1 h2, RelL.nom hb xs r hn.2 h3⟩
theorem RelT.nom {β β' : Bt} (hb : ∀ i, β i = β' i) : ∀ (l : List SV) (vs : List Value), SV.nomL l = true → RelT β l vs → RelT β' l vs
  | [], _, _, _ => trivial
  | x :: xs, vs, hn, ⟨h1, h2⟩ => by
    simp only [SV.nomL, Bool.and_eq_true] at hn
    exact ⟨h1.imp id fun ⟨y, r, e, h⟩ => ⟨y, r, e, RelV.nom hb x y hn.1 h⟩, RelT.nom hb xs vs.tail hn.2 h2⟩
end
theorem SV.nomL_get : ∀ {l : List SV} {j : Nat} {x : SV}, SV.nomL l = true → l[j]? = some x → x.nom = true
  | y :: _, 0, x, h, e => by
    simp only [SV.nomL, Bool.and_eq_true] at h
    simp at e
    rw [← e]; exact h.1
  | _ :: l, j + 1, x, h, e => by
    simp only [SV.nomL, Bool.and_eq_true] at h
    exact SV.nomL_get h.2 (by simpa using e)
  | [], _, _, _, e => by simp at e
def nomK (L : List (Option SK)) : Prop := ∀ (i z n : Nat) (own : Bool) (ty : TypeId) (el : Nat → List SV), L[i]? = some (some (SK.row ⟨z, n, own, ty, el⟩)) → ∀ e, e < n → SV.nomL (el e) = true
section
variable {P : Program} {s : St}
theorem RelK.nom {w : World} {β β' : Bt} {p : Pl} (hb : ∀ i, β i = β' i) {K : SK} (hn : ∀ z n own ty el, K = .row ⟨z, n, own, ty, el⟩ → ∀ e, e < n → SV.nomL (el e) = true) (r : RelK w β p K) : RelK w β' p K := by
  cases K with
  | row B =>
    obtain ⟨z, n, own, ty, el⟩ := B
    refine ⟨r.1, r.2.1, fun e he => ⟨(r.2.2.1 e he).1, fun j x hx => ?_⟩, r.2.2.2⟩
    obtain ⟨y, h1, h2, h3⟩ := (r.2.2.1 e he).2 j x hx
    exact ⟨y, h1, h2, RelV.nom hb x y (SV.nomL_get (hn z n own ty el rfl e he) hx) h3⟩
  | it s pos => exact r
theorem OpSem.lendO {s1 : St} {op : Oper} {fo : Operand} {argos : Array Operand} {ats : Array TypeId} {f : FuncId} {x : SV} {N : St → Prop} {ac : List SV} {L1 : List (Option SK)} (hl : ∀ o β a w, RR o β s a w → ∃ β1, RR o β1 s1 a w)
    (hcal : Cal P f) (hc : SCall P f ac [] fun r L' => r = .ret x ∧ L' = L1) (hop : op.op = .call ⟨.value fo, argos, ats⟩) (hfv : seval s1.env fo = .fn (.func f) [] [])
    (hargs : argos.toList.map (seval s1.env) = ac) (hren : SV.flatL ac = true) (hx : x.nom = true) (hL1 : nomK L1)
    (hd : dstOk (s.after [] [] L1) op.dst) (next : N ((s.after [] [] L1).put op.dst (x.ren (rho [] s.L.length)))) : OpSem P op N s := by
  obtain ⟨fn, hfn, hbody, hname⟩ := hcal
  intro o β a w hr
  obtain ⟨β1, hr1⟩ := hl o β a w hr
  have hf := eval_rel hr1 fo
  rw [hfv] at hf
  obtain ⟨c1, c2, hfe, hfi, hca⟩ := hf
  have hrun : (execOp a.eval op).run P w = .ok (.enter f (c1 ++ argos.map a.eval ++ c2)) w := by
    have hn : fn.body.isNone = false := by cases hb : fn.body <;> simp [hb] at hbody ⊢
    simp only [execOp, hop, resolve, Deferred.ofValue, hfe, Sem.run_bind, Sem.run_pure, Result.andThen_ok, invoke, callFunc, run_program, hfn, hname, hn, Bool.false_eq_true, if_false]
  unfold stepTo
  rw [hrun]
  have hrelA : RelL β1 ([] ++ argos.toList.map (seval s1.env) ++ []) (c1 ++ argos.map a.eval ++ c2).toList := by
    have h1 : RelL β1 (argos.toList.map (seval s1.env)) (argos.toList.map a.eval) := relL_map (fun x => eval_rel hr1 x) _
    have := (hfi.append h1).append hca
    simpa using this
  rw [List.nil_append, List.append_nil, hargs, ← SV.flatL_ren (rho [] s1.L.length) ac hren] at hrelA
  have hv0 : RelH w (β.ren (rho [] s.L.length)) [] := hr.heap.view (l := []) List.nodup_nil trivial
  refine (hc w _ _ (hr1.heap.view (l := []) List.nodup_nil trivial) (RelL.of_ren _ _ hrelA)).mono fun e w' ⟨β', L', r, hR, hrel, hh, hk, hlen', hsame⟩ => ?_
  obtain ⟨rfl, rfl⟩ := hR
  obtain ⟨v, rfl, hv⟩ := hrel
  have hold : ∀ g, g < w.heap.size → w'.heap[g]? = w.heap[g]? := fun g hg => hk.old g hg fun i K p h => by simp at h
  let β3 : Bt := ⟨β'.b, β.m⟩
  have hb3 : ∀ i, β' i = β3 i := fun i => rfl
  have hh0 : RelH w' β3 L' :=
    ⟨fun i K h => by
      obtain ⟨p, hp, hk2⟩ := hh.blk i K h
      exact ⟨p, hp, hk2.nom hb3 fun z n own ty el e => hL1 i z n own ty el (by rw [h, e])⟩, fun i K p h hp => hh.lt i K p h hp, fun i j K K' p q hij h1 h2 h3 h4 => hh.sep i j K K' p q hij h1 h2 h3 h4, hh.out, fun b o v hm => by
      obtain ⟨g1, g2, g3⟩ := hv0.ro b o v hm
      exact ⟨by rw [cell_congr (hold b g3)]; exact g1, g2, Nat.lt_of_lt_of_le g3 hk.size⟩, fun i K p b o v h h1 h2 h3 h4 => by
      obtain ⟨_, _, g3⟩ := hv0.ro b o v h4
      rcases hk.new i K p h h2 h3 with h5 | ⟨j, K', q, h5, _⟩
      · omega
      · simp at h5⟩
  have hk0 : Keep w (β.ren (rho [] s.L.length)) [] w' β3 L' :=
    ⟨hk.os, hk.tape, hk.output, hk.size, fun g hg _ => hold g hg, fun i K p h h2 h3 => by
      rcases hk.new i K p h h2 h3 with h5 | ⟨j, K', q, h5, _⟩
      · exact .inl h5
      · simp at h5, fun _ _ _ h => h, fun _ _ _ h => .inl h⟩
  obtain ⟨β2, hr2, hrn, hle2⟩ := hr.called (l := []) (Lc := []) (L' := L') List.nodup_nil trivial hh0 hk0 (Nat.zero_le _) (fun i hi => absurd hi (by simp))
  exact ⟨v, rfl, β2, _, next, hr2.put hd (RelV.ren hrn x v (RelV.nom hb3 x v hx hv)), hle2.m⟩
theorem SemOps.lendO {all rest : List Oper} {K : List It} {Q : SX → St → Prop} {s1 : St} {op : Oper} {fo : Operand} {argos : Array Operand} {ats : Array TypeId} {f : FuncId} {x : SV} {k : Nat} {ac : List SV} {L1 : List (Option SK)} (hl : Lent P s s1)
    (hcal : Cal P f) (hc : SCall P f ac [] fun r L' => r = .ret x ∧ L' = L1) (hop : op.op = .call ⟨.value fo, argos, ats⟩) (hg : op.guard = none) (hfv : seval s1.env fo = .fn (.func f) [] [])
    (hargs : argos.toList.map (seval s1.env) = ac) (hren : SV.flatL ac = true) (hx : x.nom = true) (hL1 : nomK L1)
    (hd : dstOk (s.after [] [] L1) op.dst) (next : swOps P Q (sw P Q k) all rest K ((s.after [] [] L1).put op.dst (x.ren (rho [] s.L.length)))) : SemOps P Q all (op :: rest) K s :=
  SemOps.ofOp hop hg (OpSem.lendO hl hcal hc hop hfv hargs hren hx hL1 hd (SemOps.go next))
end
end Go.SL
namespace Go.SL
open Go
section
variable {P : Program} {s : St}
theorem SCall.lent {f : FuncId} {args : List SV} {L L1 L' : List (Option SK)} {x x' : SV} (hc : SCall P f args L fun r M => r = .ret x ∧ M = L1) {s' : St}
    (k : Lent P ⟨1, L.length, [(0, x)], L1⟩ s') (he : lookup s'.env 0 = x') (hL : s'.L = L') : SCall P f args L fun r M => r = .ret x' ∧ M = L' := by
  intro w β cargs hH hA
  refine Calls.mono (hc w β cargs hH hA) fun e w' h => ?_
  obtain ⟨β', M, r, ⟨rfl, rfl⟩, ⟨v, rfl, hv⟩, hH', hK, hle, hsame⟩ := h
  have hr : RR ⟨w, β, L, []⟩ β' ⟨1, L.length, [(0, x)], M⟩ ⟨#[v], []⟩ w' := by
    refine ⟨rfl, fun n => ?_, hH', hK, rfl, hle, hsame, rfl⟩
    cases n with
    | zero => exact hv
    | succ n => exact trivial
  obtain ⟨β2, h2⟩ := k _ _ _ _ hr
  subst hL he
  refine ⟨β2, s'.L, .ret _, ⟨rfl, rfl⟩, ⟨v, rfl, h2.env 0⟩, h2.heap, h2.keep, ?_, ?_⟩
  · have := h2.blen
    rw [h2.base] at this
    exact this
  · have := h2.same
    rw [h2.base] at this
    exact this
theorem relL_ghost {β β' : Bt} {N z : Nat} (hle : β.le β') (hN : β' N = some ⟨0, 0, z, 0⟩) : ∀ (l : List SV) (k : Nat) (vs : List Value), l[k]? = some (.v (.slice none 0 0)) → RelL β l vs → RelL β' (l.set k (.slc N 0 0)) vs
  | x :: l, 0, vs, hk, ⟨y, r, h1, h2, h3⟩ => by
    simp at hk
    subst hk
    exact ⟨y, r, h1, ⟨_, none, 0, hN, h2, Nat.le_refl _, .inl rfl⟩, RelL.mono hle h3⟩
  | x :: l, k + 1, vs, hk, ⟨y, r, h1, h2, h3⟩ => ⟨y, r, h1, RelV.mono hle h2, relL_ghost hle hN l k r (by simpa using hk) h3⟩
  | [], k, vs, hk, _ => by simp at hk
theorem Lent.ghostN (z : Nat) (own : Bool) (ty : TypeId) (el : Nat → List SV) : Lent P s ⟨s.sz, s.base, s.env, s.L ++ [some (.row ⟨z, 0, own, ty, el⟩)]⟩ ∧
    ∀ o β a w, RR o β s a w → RR o (β.put s.L.length ⟨0, 0, z, 0⟩) ⟨s.sz, s.base, s.env, s.L ++ [some (.row ⟨z, 0, own, ty, el⟩)]⟩ a w := by
  have h : ∀ o β a w, RR o β s a w → RR o (β.put s.L.length ⟨0, 0, z, 0⟩) ⟨s.sz, s.base, s.env, s.L ++ [some (.row ⟨z, 0, own, ty, el⟩)]⟩ a w := by
    intro o β a w hr
    have hN := hr.heap.out s.L.length (Nat.le_refl _)
    have hle : β.le (β.put s.L.length ⟨0, 0, z, 0⟩) := Bt.le_put _ hN
    refine ⟨hr.size, fun n => (hr.env n).mono hle, relH_ghost hr.heap z ty own el, hr.keep.trans ⟨rfl, rfl, rfl, Nat.le_refl _, fun _ _ _ => rfl, fun i K p hi hp hc => ?_, fun _ _ _ h => h, fun _ _ _ h => .inl h⟩, hr.base, ?_, fun i hi => ?_, hr.defers⟩
    · rcases Nat.lt_or_ge i s.L.length with h1 | h1
      · have hi : (s.L ++ [some (SK.row ⟨z, 0, own, ty, el⟩)])[i]? = some (some K) := hi
        rw [List.getElem?_append_left h1] at hi
        simp only [Bt.put, Nat.ne_of_lt h1, if_false] at hp
        exact .inr ⟨i, K, p, hi, hp, hc, rfl, id, .inl rfl⟩
      · have hi : (s.L ++ [some (SK.row ⟨z, 0, own, ty, el⟩)])[i]? = some (some K) := hi
        rw [List.getElem?_append_right h1] at hi
        obtain ⟨e1, _⟩ := single_get hi
        have : i = s.L.length := by omega
        subst this
        rw [Bt.put_same] at hp
        cases hp
        exact absurd hc (Nat.lt_irrefl _)
    · show s.base ≤ (s.L ++ [_]).length
      rw [List.length_append]
      exact Nat.le_trans hr.blen (Nat.le_add_right _ _)
    · have hi' : i < s.base := hi
      have : i ≠ s.L.length := by have := hr.blen; omega
      simp only [Bt.put, this, if_false]
      exact hr.same i hi'
  exact ⟨fun o β a w hr => ⟨_, h o β a w hr⟩, h⟩
theorem Lent.ghostA (d k z : Nat) (own : Bool) (ty : TypeId) (el : Nat → List SV) {l : List SV} (hd : lookup s.env d = .agg l) (hk : l[k]? = some (.v (.slice none 0 0))) :
    Lent P s ⟨s.sz, s.base, (d, .agg (l.set k (.slc s.L.length 0 0))) :: s.env, s.L ++ [some (.row ⟨z, 0, own, ty, el⟩)]⟩ := by
  intro o β a w hr
  have h := (Lent.ghostN (P := P) (s := s) z own ty el).2 o β a w hr
  have hN := hr.heap.out s.L.length (Nat.le_refl _)
  have hle : β.le (β.put s.L.length ⟨0, 0, z, 0⟩) := Bt.le_put _ hN
  refine ⟨_, h.size, fun n => ?_, h.heap, h.keep, h.base, h.blen, h.same, h.defers⟩
  show RelV _ (lookup ((d, _) :: s.env) n) _
  unfold lookup
  split
  · rename_i e
    subst e
    have hv := hr.env d
    rw [hd] at hv
    obtain ⟨cs, h1, h2⟩ := hv
    exact ⟨cs, h1, relL_ghost hle (Bt.put_same ..) l k cs.toList hk h2⟩
  · exact (hr.env n).mono hle
theorem SCall.ghostN {f : FuncId} {args : List SV} {L L1 : List (Option SK)} {x : SV} (z : Nat) (own : Bool) (ty : TypeId) (el : Nat → List SV) (hc : SCall P f args L fun r M => r = .ret x ∧ M = L1) :
    SCall P f args L fun r M => r = .ret x ∧ M = L1 ++ [some (.row ⟨z, 0, own, ty, el⟩)] := SCall.lent hc (Lent.ghostN z own ty el).1 rfl rfl
theorem SCall.ghostA {f : FuncId} {args : List SV} {L L1 : List (Option SK)} {l : List SV} (k z : Nat) (own : Bool) (ty : TypeId) (el : Nat → List SV) (hk : l[k]? = some (.v (.slice none 0 0))) (hc : SCall P f args L fun r M => r = .ret (.agg l) ∧ M = L1) :
    SCall P f args L fun r M => r = .ret (.agg (l.set k (.slc L1.length 0 0))) ∧ M = L1 ++ [some (.row ⟨z, 0, own, ty, el⟩)] := SCall.lent hc (Lent.ghostA 0 k z own ty el rfl hk) rfl rfl
def noneL (bs : List Nat) : Nat → List (Option SK) → List (Option SK)
  | _, [] => []
  | i, K :: L => (bif bs.contains i then none else K) :: noneL bs (i + 1) L
theorem noneL_length (bs : List Nat) : ∀ (L : List (Option SK)) (c : Nat), (noneL bs c L).length = L.length
  | [], _ => rfl
  | _ :: L, c => by rw [noneL, List.length_cons, List.length_cons, noneL_length bs L]
theorem noneL_get (bs : List Nat) : ∀ (L : List (Option SK)) (c i : Nat) (K : SK), (noneL bs c L)[i]? = some (some K) → L[i]? = some (some K)
  | [], _, _, _, h => by simp [noneL] at h
  | K0 :: L, c, 0, K, h => by
    simp only [noneL, List.getElem?_cons_zero, Option.some.injEq] at h
    cases hb : bs.contains c with
    | true => rw [hb] at h; cases h
    | false => rw [hb] at h; simpa using h
  | K0 :: L, c, i + 1, K, h => by
    simp only [noneL, List.getElem?_cons_succ] at h ⊢
    exact noneL_get bs L (c + 1) i K h
theorem Lent.frzE (d : Nat) (x' : SV) (bs : List Nat) (hx : Ent (fzOf s.L (List.range s.L.length) (noneL bs 0 s.L)) (fun i => i) x' (lookup s.env d)) :
    Lent P s ⟨s.sz, s.base, (d, x') :: s.env, noneL bs 0 s.L⟩ := by
  intro o β a w hr
  have hρ : rho (List.range s.L.length) s.L.length = fun i => i := funext fun i => rho_range s.L.length i
  have hk : WkP (List.range s.L.length) s ⟨s.sz, s.base, (d, x') :: s.env, noneL bs 0 s.L⟩ := by
    refine ⟨rfl, rfl, ?_, List.nodup_range, ?_, ?_, ?_⟩
    · show s.base ≤ (noneL bs 0 s.L).length
      rw [noneL_length]
      exact hr.blen
    · rw [List.take_range, Nat.min_eq_left hr.blen]
    · intro n
      rw [hρ]
      show Ent _ _ (lookup ((d, x') :: s.env) n) _
      have e : lookup ((d, x') :: s.env) n = if d = n then x' else lookup s.env n := rfl
      rw [e]
      split
      · rename_i e
        subst e
        exact hx
      · exact Ent.id _ _
    · rw [hρ]
      have := wkL_range (fzOf s.L (List.range s.L.length) (noneL bs 0 s.L)) s.L (noneL bs 0 s.L) 0 (fun i K hi => by rw [Nat.zero_add, getL_some]; exact noneL_get bs _ _ _ _ hi)
      rwa [noneL_length, ← List.range_eq_range'] at this
  obtain ⟨β', h, _⟩ := hr.weakenP hk
  exact ⟨β', h⟩
theorem SemOps.lendP {Q : SX → St → Prop} {K : List It} {all rest : List Oper} {s1 : St} {op : Oper} {fo : Operand} {argos : Array Operand} {ats : Array TypeId} {f : FuncId} {x : SV} {ac : List SV} {L1 : List (Option SK)} (hl : Lent P s s1)
    (hcal : Cal P f) (hc : SCall P f ac [] fun r L' => r = .ret x ∧ L' = L1) (hop : op.op = .call ⟨.value fo, argos, ats⟩) (hg : op.guard = none) (hfv : seval s1.env fo = .fn (.func f) [] [])
    (hargs : argos.toList.map (seval s1.env) = ac) (hren : SV.flatL ac = true) (hx : x.nom = true) (hL1 : nomK L1)
    (hd : dstOk (s.after [] [] L1) op.dst) (next : SemOps P Q all rest K ((s.after [] [] L1).put op.dst (x.ren (rho [] s.L.length)))) : SemOps P Q all (op :: rest) K s :=
  SemOps.ofOp hop hg (OpSem.lendO hl hcal hc hop hfv hargs hren hx hL1 hd next)
end
end Go.SL
