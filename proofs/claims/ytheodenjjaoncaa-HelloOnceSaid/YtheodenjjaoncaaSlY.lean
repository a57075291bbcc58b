/- Contracts of functions that the laws reach, on abstract values, and what they need: no conditions but those that each theorem states. -/
import Derived.Test.YtheodenjjaoncaaSlR
import Derived.Laws.MakeOwn
set_option linter.unusedVariables false
set_option linter.unusedSimpArgs false
set_option linter.defProp false
namespace Go.SL
open Go
section
variable {P : Program} {s : St}
def Lent (P : Program) (s s1 : St) : Prop := ∀ o β a w, RR o β s a w → ∃ β1, RR o β1 s1 a w
theorem Lent.refl : Lent P s s := fun _ β _ _ h => ⟨β, h⟩
theorem Lent.frz {s0 : St} {d b e n m z : Nat} {ty : TypeId} {el : Nat → List SV} (h0 : Lent P s0 s) (rows : List (List SV)) (hd : lookup s.env d = .slc b e n) (hL : getL s.L b = some (.row ⟨z, m, true, ty, el⟩)) (hlen : rows.length = n) (hm : e + n ≤ m)
    (hel : ∀ (i : Nat) r, rows[i]? = some r → EntL nofz (fun i => i) r (el (e + i))) : Lent P s0 ⟨s.sz, s.base, (d, .rsl z rows) :: s.env, s.L.set b none⟩ :=
  fun o β a w hr => let ⟨β1, hr1⟩ := h0 o β a w hr
    let ⟨β', hr', _⟩ := hr1.frz rows hd hL hlen hm hel
    ⟨β', hr'⟩
end
end Go.SL
namespace Go.SL
open Go
section
variable {P : Program} {s : St}
end
end Go.SL
namespace Go.SL
open Go
section
variable {P : Program} {Q : SX → St → Prop} {K : List It} {s : St}
theorem set_some {L : List (Option SK)} {b : Nat} {K' : SK} {i : Nat} {K1 : SK} (h : (L.set b (some K'))[i]? = some (some K1)) : (i = b ∧ K1 = K') ∨ (i ≠ b ∧ L[i]? = some (some K1)) := by
  by_cases e : b = i
  · subst e
    rcases Nat.lt_or_ge b L.length with hlt | hge
    · rw [List.getElem?_set_self hlt] at h
      exact .inl ⟨rfl, by simpa using h.symm⟩
    · rw [List.getElem?_eq_none (by simpa using hge)] at h
      cases h
  · rw [List.getElem?_set_ne e] at h
    exact .inr ⟨fun h => e h.symm, h⟩
theorem relH_set {w : World} {β : Bt} {L : List (Option SK)} {b : Nat} {K K' : SK} (h : RelH w β L) (hb : getL L b = some K) (ho : K'.own = true → K.own = true) (hk : ∀ p, β b = some p → RelK w β p K') : RelH w β (L.set b (some K')) := by
  have hb' := getL_some.1 hb
  have was : ∀ (i : Nat) (K1 : SK), (L.set b (some K'))[i]? = some (some K1) → ∃ K0 : SK, L[i]? = some (some K0) ∧ (K1.own = true → K0.own = true) := by
    intro i K1 hi
    rcases set_some hi with ⟨rfl, rfl⟩ | ⟨_, h2⟩
    · exact ⟨K, hb', ho⟩
    · exact ⟨K1, h2, id⟩
  refine ⟨fun i K1 hi => ?_, fun i K1 p hi hp hc => ?_, fun i j K1 K2 p q hij hi hj hp hq ho' hc hc' => ?_, fun i hi => ?_, h.ro, fun i K1 p c v x hi ho' hp hc hv => ?_⟩
  · rcases set_some hi with ⟨rfl, rfl⟩ | ⟨_, h2⟩
    · obtain ⟨p, hp, _⟩ := h.blk i K hb'
      exact ⟨p, hp, hk p hp⟩
    · exact h.blk i K1 h2
  · obtain ⟨K0, h0, _⟩ := was i K1 hi
    exact h.lt i K0 p h0 hp hc
  · obtain ⟨K0, h0, o0⟩ := was i K1 hi
    obtain ⟨K3, h3, _⟩ := was j K2 hj
    exact h.sep i j K0 K3 p q hij h0 h3 hp hq (o0 ho') hc hc'
  · exact h.out i (by simpa using hi)
  · obtain ⟨K0, h0, o0⟩ := was i K1 hi
    exact h.rosep i K0 p c v x h0 (o0 ho') hp hc hv
theorem relB_ghost {w : World} {β : Bt} {p : Pl} {z k N zz : Nat} {ty : TypeId} {el : Nat → List SV} (hN : β N = some ⟨0, 0, zz, 0⟩) (hk : (el 0)[k]? = some (.v (.slice none 0 0))) (h : RelB w β p ⟨z, 1, true, ty, el⟩) : RelB w β p ⟨z, 1, true, ty, fun _ => (el 0).set k (.slc N 0 0)⟩ := by
  obtain ⟨r1, r2, r3, r4⟩ := h
  refine ⟨r1, r2, fun e he => ?_, r4⟩
  obtain rfl : e = 0 := by
    have : e < 1 := he
    omega
  obtain ⟨h1, h2⟩ := r3 0 he
  refine ⟨by simpa using h1, fun j x hx => ?_⟩
  have hx : ((el 0).set k (.slc N 0 0))[j]? = some x := hx
  by_cases e : k = j
  · subst e
    have hlt : k < (el 0).length := by
      rcases Nat.lt_or_ge k (el 0).length with h | h
      · exact h
      · rw [List.getElem?_eq_none h] at hk; cases hk
    rw [List.getElem?_set_self hlt] at hx
    cases hx
    obtain ⟨y, y1, y2, y3⟩ := h2 k _ hk
    exact ⟨y, y1, y2, _, none, 0, hN, y3, Nat.le_refl _, .inl rfl⟩
  · rw [List.getElem?_set_ne e] at hx
    exact h2 j x hx
theorem Lent.ghostB (b k z : Nat) (ty : TypeId) {zb : Nat} {tyb : TypeId} {el : Nat → List SV} (hb : getL s.L b = some (.row ⟨zb, 1, true, tyb, el⟩)) (hk : (el 0)[k]? = some (.v (.slice none 0 0))) :
    Lent P s ⟨s.sz, s.base, s.env, s.L.set b (some (.row ⟨zb, 1, true, tyb, fun _ => (el 0).set k (.slc s.L.length 0 0)⟩)) ++ [some (.row ⟨z, 0, true, ty, fun _ => []⟩)]⟩ := by
  intro o β a w hr
  have hN := hr.heap.out s.L.length (Nat.le_refl _)
  have hle : β.le (β.put s.L.length ⟨0, 0, z, 0⟩) := Bt.le_put _ hN
  have hlt : b < s.L.length := by
    have := getL_some.1 hb
    rcases Nat.lt_or_ge b s.L.length with h | h
    · exact h
    · rw [List.getElem?_eq_none h] at this; cases this
  have hg0 : getL (s.L ++ [some (.row ⟨z, 0, true, ty, fun _ => []⟩)]) b = some (.row ⟨zb, 1, true, tyb, el⟩) := by
    rw [getL_some, List.getElem?_append_left hlt]
    exact getL_some.1 hb
  have hh := relH_ghost hr.heap z ty true fun _ => []
  have hh2 := relH_set (K' := .row ⟨zb, 1, true, tyb, fun _ => (el 0).set k (.slc s.L.length 0 0)⟩) hh hg0 (fun _ => rfl) (fun p hp => by
    obtain ⟨p', hp', rk⟩ := hh.blk b _ (getL_some.1 hg0)
    rw [hp] at hp'
    cases hp'
    exact relB_ghost (Bt.put_same ..) hk rk)
  rw [List.set_append_left _ _ hlt] at hh2
  refine ⟨β.put s.L.length ⟨0, 0, z, 0⟩, hr.size, fun n => (hr.env n).mono hle, hh2, hr.keep.trans ⟨rfl, rfl, rfl, Nat.le_refl _, fun _ _ _ => rfl, fun i K1 p hi hp hc => ?_, fun _ _ _ h => h, fun _ _ _ h => .inl h⟩, hr.base, ?_, fun i hi => ?_, hr.defers⟩
  · rcases Nat.lt_or_ge i s.L.length with h1 | h1
    · have hi : (s.L.set b (some (.row ⟨zb, 1, true, tyb, fun _ => (el 0).set k (.slc s.L.length 0 0)⟩)) ++ [some (SK.row ⟨z, 0, true, ty, fun _ => []⟩)])[i]? = some (some K1) := hi
      rw [List.getElem?_append_left (by simpa using h1)] at hi
      simp only [Bt.put, Nat.ne_of_lt h1, if_false] at hp
      rcases set_some hi with ⟨rfl, rfl⟩ | ⟨_, h2⟩
      · exact .inr ⟨i, _, p, getL_some.1 hb, hp, hc, rfl, fun _ => rfl, .inl rfl⟩
      · exact .inr ⟨i, K1, p, h2, hp, hc, rfl, id, .inl rfl⟩
    · have hi : (s.L.set b (some (.row ⟨zb, 1, true, tyb, fun _ => (el 0).set k (.slc s.L.length 0 0)⟩)) ++ [some (SK.row ⟨z, 0, true, ty, fun _ => []⟩)])[i]? = some (some K1) := hi
      rw [List.getElem?_append_right (by simpa using h1)] at hi
      obtain ⟨e1, _⟩ := single_get hi
      simp only [List.length_set] at e1
      have : i = s.L.length := by omega
      subst this
      rw [Bt.put_same] at hp
      cases hp
      exact absurd hc (Nat.lt_irrefl _)
  · show s.base ≤ (s.L.set b _ ++ [_]).length
    rw [List.length_append, List.length_set]
    exact Nat.le_trans hr.blen (Nat.le_add_right _ _)
  · have hi' : i < s.base := hi
    have : i ≠ s.L.length := by have := hr.blen; omega
    simp only [Bt.put, this, if_false]
    exact hr.same i hi'
theorem Lent.sem {s1 : St} (h : Lent P s s1) (k : Sem P Q K s1) : Sem P Q K s := fun o β a w hr => let ⟨β1, h1⟩ := h o β a w hr; k o β1 a w h1
theorem Lent.ops {all rest : List Oper} {s1 : St} (h : Lent P s s1) (k : SemOps P Q all rest K s1) : SemOps P Q all rest K s := fun o β a w hr => let ⟨β1, h1⟩ := h o β a w hr; k o β1 a w h1
theorem SemOps.callE {all rest : List Oper} {op : Oper} {fo : Operand} {argos : Array Operand} {ats : Array TypeId} {f : FuncId} {fi ca : List SV}
    (hop : op.op = .call ⟨.value fo, argos, ats⟩) (hg : op.guard = none) (hfv : seval s.env fo = .fn (.func f) fi ca) (hcal : Cal P f)
    (l : List Nat) {ac : List SV} {Lc : List (Option SK)} {R : SE → List (Option SK) → Prop} (hc : SCall P f ac Lc R)
    (hargs : EntL nofz (rho l s.L.length) ac (fi ++ argos.toList.map (seval s.env) ++ ca)) (hnd : l.Nodup) (hL : wkL nofz (rho l s.L.length) s.L l Lc) (hd : dstOk s op.dst)
    (next : ∀ r L', R (.ret r) L' → SemOps P Q all rest K ((s.after l Lc L').put op.dst (r.ren (rho l s.L.length))))
    (pan : ∀ x L', R (.pan x) L' → Q (.panic (x.ren (rho l s.L.length))) (s.after l Lc L')) : SemOps P Q all (op :: rest) K s := by
  obtain ⟨fn, hfn, hbody, hname⟩ := hcal
  intro o β a w hr
  unfold wpList
  rw [if_pos (by simp [Region.wanted, hg])]
  left
  have hf := eval_rel hr fo
  rw [hfv] at hf
  obtain ⟨c1, c2, hfe, hfi, hca⟩ := hf
  have hrun : (execOp a.eval op).run P w = .ok (.enter f (c1 ++ argos.map a.eval ++ c2)) w := by
    have hn : fn.body.isNone = false := by cases hb : fn.body <;> simp [hb] at hbody ⊢
    simp only [execOp, hop, resolve, Deferred.ofValue, hfe, Sem.run_bind, Sem.run_pure, Result.andThen_ok, invoke, callFunc, run_program, hfn, hname, hn, Bool.false_eq_true, if_false]
  unfold Oper.wp
  rw [hrun]
  have hrelA : RelL β (fi ++ argos.toList.map (seval s.env) ++ ca) (c1 ++ argos.map a.eval ++ c2).toList := by
    have h1 : RelL β (argos.toList.map (seval s.env)) (argos.toList.map a.eval) := relL_map (fun x => eval_rel hr x) _
    have := (hfi.append h1).append hca
    simpa using this
  refine (hc w _ _ (hr.heap.view hnd hL) (EntL.rel (Ren.of_ren (w := w) _) _ _ _ hargs hrelA)).mono fun e w' ⟨β', L', r, hR, hrel, hh, hk, hlen', hsame⟩ => ?_
  obtain ⟨β2, hr2, hren, _⟩ := hr.called hnd hL hh hk hlen' hsame
  cases r with
  | ret x =>
    obtain ⟨v, rfl, hv⟩ := hrel
    exact next x L' hR o β2 _ w' (hr2.put hd (RelV.ren hren x v hv))
  | pan x =>
    obtain ⟨v, rfl, hv⟩ := hrel
    exact panic_KQ K a w' ⟨β2, _, .panic (x.ren (rho l s.L.length)), ⟨v, rfl, RelV.ren hren x v hv⟩, pan x L' hR, hr2⟩
theorem OpSem.callE {op : Oper} {fo : Operand} {argos : Array Operand} {ats : Array TypeId} {f : FuncId} {fi ca : List SV} {N : St → Prop}
    (hop : op.op = .call ⟨.value fo, argos, ats⟩) (hfv : seval s.env fo = .fn (.func f) fi ca) (hcal : Cal P f)
    (l : List Nat) {ac : List SV} {Lc : List (Option SK)} {R : SE → List (Option SK) → Prop} (hc : SCall P f ac Lc R)
    (hargs : EntL nofz (rho l s.L.length) ac (fi ++ argos.toList.map (seval s.env) ++ ca)) (hnd : l.Nodup) (hL : wkL nofz (rho l s.L.length) s.L l Lc) (hd : dstOk s op.dst)
    (next : ∀ r L', R (.ret r) L' → N ((s.after l Lc L').put op.dst (r.ren (rho l s.L.length))))
    (pan : ∀ x L', ¬ R (.pan x) L') : OpSem P op N s := by
  obtain ⟨fn, hfn, hbody, hname⟩ := hcal
  intro o β a w hr
  have hf := eval_rel hr fo
  rw [hfv] at hf
  obtain ⟨c1, c2, hfe, hfi, hca⟩ := hf
  have hrun : (execOp a.eval op).run P w = .ok (.enter f (c1 ++ argos.map a.eval ++ c2)) w := by
    have hn : fn.body.isNone = false := by cases hb : fn.body <;> simp [hb] at hbody ⊢
    simp only [execOp, hop, resolve, Deferred.ofValue, hfe, Sem.run_bind, Sem.run_pure, Result.andThen_ok, invoke, callFunc, run_program, hfn, hname, hn, Bool.false_eq_true, if_false]
  unfold stepTo
  rw [hrun]
  have hrelA : RelL β (fi ++ argos.toList.map (seval s.env) ++ ca) (c1 ++ argos.map a.eval ++ c2).toList := by
    have h1 : RelL β (argos.toList.map (seval s.env)) (argos.toList.map a.eval) := relL_map (fun x => eval_rel hr x) _
    have := (hfi.append h1).append hca
    simpa using this
  refine (hc w _ _ (hr.heap.view hnd hL) (EntL.rel (Ren.of_ren (w := w) _) _ _ _ hargs hrelA)).mono fun e w' ⟨β', L', r, hR, hrel, hh, hk, hlen', hsame⟩ => ?_
  obtain ⟨β2, hr2, hren, hle2⟩ := hr.called hnd hL hh hk hlen' hsame
  cases r with
  | ret x =>
    obtain ⟨v, rfl, hv⟩ := hrel
    exact ⟨v, rfl, β2, _, next x L' hR, hr2.put hd (RelV.ren hren x v hv), hle2.m⟩
  | pan x => exact (pan x L' hR).elim
theorem SemOps.callw {all rest : List Oper} {op : Oper} {fo : Operand} {argos : Array Operand} {ats : Array TypeId} {f : FuncId} {x : SV} {ac : List SV} {Lc L1 : List (Option SK)} (l : List Nat)
    (hcal : Cal P f) (hc : SCall P f ac Lc fun r L' => r = .ret x ∧ L' = L1) (hop : op.op = .call ⟨.value fo, argos, ats⟩) (hg : op.guard = none) (hfv : seval s.env fo = .fn (.func f) [] [])
    (hargs : EntL nofz (rho l s.L.length) ac (argos.toList.map (seval s.env))) (hnd : nodupN l = true) (hL : wkL nofz (rho l s.L.length) s.L l Lc)
    (hd : dstOk s op.dst) (next : SemOps P Q all rest K ((s.after l Lc L1).put op.dst (x.ren (rho l s.L.length)))) : SemOps P Q all (op :: rest) K s := by
  refine SemOps.callE hop hg hfv hcal l hc (by simpa using hargs) (nodupN_spec hnd) hL hd (fun r L' h => ?_) (fun x L' h => nomatch h.1)
  obtain ⟨h1, rfl⟩ := h
  cases h1
  exact next
theorem OpSem.callw {op : Oper} {fo : Operand} {argos : Array Operand} {ats : Array TypeId} {f : FuncId} {x : SV} {N : St → Prop} {ac : List SV} {Lc L1 : List (Option SK)} (l : List Nat)
    (hcal : Cal P f) (hc : SCall P f ac Lc fun r L' => r = .ret x ∧ L' = L1) (hop : op.op = .call ⟨.value fo, argos, ats⟩) (hfv : seval s.env fo = .fn (.func f) [] [])
    (hargs : EntL nofz (rho l s.L.length) ac (argos.toList.map (seval s.env))) (hnd : nodupN l = true) (hL : wkL nofz (rho l s.L.length) s.L l Lc)
    (hd : dstOk s op.dst) (next : N ((s.after l Lc L1).put op.dst (x.ren (rho l s.L.length)))) : OpSem P op N s := by
  refine OpSem.callE hop hfv hcal l hc (by simpa using hargs) (nodupN_spec hnd) hL hd (fun r L' h => ?_) (fun x L' h => nomatch h.1)
  obtain ⟨h1, rfl⟩ := h
  cases h1
  exact next
theorem SKren_row (ρ : Nat → Nat) (z n : Nat) (own : Bool) (ty : TypeId) (el : Nat → List SV) : SK.ren ρ (.row ⟨z, n, own, ty, el⟩) = .row ⟨z, n, own, ty, fun e => SV.renL ρ (el e)⟩ := rfl
theorem renL_flat (ρ : Nat → Nat) (l : List SV) (h : SV.flatL l = true) : SV.renL ρ l = l := SV.flatL_ren ρ l h
theorem ren_tup (ρ : Nat → Nat) (l : List SV) : SV.ren ρ (.tup l) = .tup (SV.renL ρ l) := rfl
end
end Go.SL
namespace Go.SL
open Go
theorem Lent.wk {P : Program} {s s1 : St} (l : List Nat) (h : Wk l s s1) : Lent P s s1 := fun o β a w hr => hr.weaken h
end Go.SL
namespace Go.SL
open Go
section
variable {P : Program} {Q : SX → St → Prop} {K : List It} {s : St}
theorem SemOps.ofDoes {all rest : List Oper} {op : Oper} {r : SO} (hg : op.guard = none)
    (h : ∀ ρ w β, Loc w β s.L.length (getL s.L) → (∀ x, RelV β (seval s.env x) (ρ x)) → Does P op ρ w β s.L.length (getL s.L) r)
    (hd : dstOk s op.dst) (next : SemOps P Q all rest K (s.step op.dst r)) : SemOps P Q all (op :: rest) K s := by
  intro o β a w hr
  unfold wpList
  rw [if_pos (by simp [Region.wanted, hg])]
  obtain ⟨nx, y, w', β', hrun, hnx, hy, hout, _⟩ := h a.eval w β (loc_of hr) (fun x => eval_rel hr x)
  have hr' := hr.step hd hy hout
  left
  unfold Oper.wp
  rw [hrun]
  rcases hnx with rfl | ⟨rfl, rfl⟩
  · exact next o β' _ w' hr'
  · exact next o β' _ w' hr'
theorem mod_get (zs : List Value) (s : Nat) (hs : zs.length = s) (hp : 0 < s) (n i : Nat) (hi : i < n * s) (z : Array Value) (hz : z.toList = zs) : (madeCells z (n * s))[i]? = some (zs.getD (i % s) undef) := by
  have hsz : z.size = s := by rw [← Array.length_toList, hz, hs]
  have hm : i % s < z.size := by rw [hsz]; exact Nat.mod_lt _ hp
  unfold madeCells
  rw [Array.getElem?_map, Array.getElem?_range, if_pos hi, Option.map_some, hsz]
  rw [getElem!_pos z (i % s) (by rwa [hsz] at hm ⊢)]
  rw [← hz, List.getD_eq_getElem?_getD, Array.getElem?_toList]
  simp [hsz, Nat.mod_lt _ hp]
theorem does_make {w : World} {β : Bt} {N : Nat} {get : Nat → Option SK} {ρ : Operand → Value} (H : Loc w β N get) {dst : Option Tmp} {t e : TypeId} {l c : Operand} {ty : TypeId} {pos : String} {af : Array Edge} {g : Option (Nat × Bool)} {sz by_ n : Nat} {kl kc : IntKind} {zs : List Value}
    (hu : P.underlying t = some (.slice e)) (he : ElTy P e sz by_) (hz : tzero P e = some zs) (hone : zs.all (·.oneCell') = true) (hl : ρ l = .int kl (n : Int)) (hc : ρ c = .int kc (n : Int)) (hb : by_ * n ≤ 281474976710656) :
    Does P ⟨dst, .makeSlice t l c, ty, pos, af, g⟩ ρ w β N get ⟨.slc N 0 n, { new := some (.row ⟨sz, n, true, e, fun _ => zs.map .v⟩) }, True⟩ := by
  obtain ⟨hs, hby, ⟨zs', hz', hzl⟩, hp1, hp2⟩ := he
  rw [hz] at hz'
  cases hz'
  unfold tsz at hs
  unfold tby at hby
  obtain ⟨i, hi, hsi⟩ := Option.map_eq_some_iff.1 hs
  rw [hi] at hby
  simp only [Option.map_some, Option.some.injEq] at hby
  unfold tzero at hz
  rw [hi, Option.bind_some] at hz
  obtain ⟨z, hzz, hzc⟩ := Option.map_eq_some_iff.1 hz
  subst hsi
  subst hby
  have hn : n ≤ 281474976710656 := by
    have : 1 * n ≤ i.bytes * n := Nat.mul_le_mul_right _ hp2
    omega
  have hr := run_make (P := P) w t e i z hu hi hzz kl kc (n : Int) (n : Int) (by omega) (Int.le_refl _) (by
    have h : ((i.bytes * n : Nat) : Int) ≤ 281474976710656 := by omega
    rwa [Int.natCast_mul] at h) (by omega)
  simp only [Int.toNat_natCast] at hr
  refine ⟨.value (.slice (some ⟨w.heap.size, 0, none⟩) n n), _, w.alloc (.cells (madeCells z.cells (n * i.size)) e), β.put N ⟨w.heap.size, 0, i.size, n⟩, ?_, .inl rfl, ⟨⟨w.heap.size, 0, i.size, n⟩, _, n, Bt.put_same .., rfl, Nat.le_refl _, .inr ⟨by simp, by simp⟩⟩, ?_, fun h => (nomatch h)⟩
  · simp only [execOp, hl, hc, Sem.run_bind, hr, Result.andThen_ok]
    rfl
  · refine Out.row H.new rfl rfl rfl rfl _ i.size n n e (fun _ => zs.map .v) true (Nat.le_refl _) (size_madeCells _ _) (by simp [maxLen]; omega) (fun e' he' => ?_) none (fun _ _ h => (nomatch h))
    refine ⟨by simpa using hzl, fun j x hx => ?_⟩
    have hj : j < i.size := by
      have := (List.getElem?_eq_some_iff.1 hx).1
      simp at this
      omega
    have hlt : e' * i.size + j < n * i.size := by
      have : (e' + 1) * i.size ≤ n * i.size := Nat.mul_le_mul_right _ he'
      rw [Nat.add_mul] at this
      omega
    rw [List.getElem?_map] at hx
    obtain ⟨v, hv, rfl⟩ := Option.map_eq_some_iff.1 hx
    refine ⟨v, ?_, ?_, rfl⟩
    · rw [mod_get zs i.size hzl hp1 n _ hlt z.cells hzc, Nat.mul_add_mod_of_lt hj, List.getD_eq_getElem?_getD, hv, Option.getD_some]
    · exact (List.all_eq_true.1 hone) v (List.mem_of_getElem? hv)
theorem SemOps.make {all rest : List Oper} {dst : Option Tmp} {t e : TypeId} {l c : Operand} {ty : TypeId} {pos : String} {af : Array Edge} {sz by_ : Nat} {kl kc : IntKind} {zs : List Value} (n : Nat)
    (hu : P.underlying t = some (.slice e)) (he : ElTy P e sz by_) (hz : tzero P e = some zs) (hone : zs.all (·.oneCell') = true) (hl : seval s.env l = .v (.int kl (n : Int))) (hc : seval s.env c = .v (.int kc (n : Int))) (hb : by_ * n ≤ 281474976710656)
    (hd : dstOk s dst) (next : SemOps P Q all rest K (s.step dst ⟨.slc s.L.length 0 n, { new := some (.row ⟨sz, n, true, e, fun _ => zs.map .v⟩) }, True⟩)) : SemOps P Q all (⟨dst, .makeSlice t l c, ty, pos, af, none⟩ :: rest) K s :=
  SemOps.ofDoes rfl (fun ρ w β H hev => does_make H hu he hz hone (by have := hev l; rw [hl] at this; exact this) (by have := hev c; rw [hc] at this; exact this) hb) hd next
end
end Go.SL
namespace Go.SL
open Go
variable {P : Program} {Q : SX → St → Prop} {K : List It} {s : St}
theorem KQ_split {o : Org} {x y : Code} : ∀ (pre : List It) (e : Exit) (a : Act) (w : World), KQ P o Q (pre ++ .code x :: .code y :: K) e a w → KQ P o Q (pre ++ .code (.seq x y) :: K) e a w
  | [], e, a, w, h => by
    cases e with
    | normal => exact wp_seq h
    | exit id => exact h
    | goto l => exact h
    | ret => exact h
    | panic ch => exact h
    | outgrown => exact h
  | .code c :: pre, e, a, w, h => by
    cases e with
    | normal =>
      have h' : c.wp P (KQ P o Q (pre ++ .code x :: .code y :: K)) a w := h
      exact wp_mono h' fun e a w hh => KQ_split pre e a w hh
    | exit id => exact KQ_split pre _ a w h
    | goto l => exact KQ_split pre _ a w h
    | ret => exact KQ_split pre _ a w h
    | panic ch => exact KQ_split pre _ a w h
    | outgrown => exact KQ_split pre _ a w h
  | .inv J2 :: pre, e, a, w, h => by
    cases e with
    | normal => exact h
    | exit id => exact KQ_split pre _ a w h
    | goto l => exact KQ_split pre _ a w h
    | ret => exact KQ_split pre _ a w h
    | panic ch => exact KQ_split pre _ a w h
    | outgrown => exact KQ_split pre _ a w h
  | .blk id :: pre, e, a, w, h => by
    have h' : Exit.inBlock id (KQ P o Q (pre ++ .code x :: .code y :: K)) e a w := h
    show Exit.inBlock id (KQ P o Q (pre ++ .code (.seq x y) :: K)) e a w
    cases e with
    | exit i =>
      unfold Exit.inBlock at h' ⊢
      simp only at h' ⊢
      split
      · rename_i e; rw [if_pos e] at h'; exact KQ_split pre _ a w h'
      · rename_i e; rw [if_neg e] at h'; exact KQ_split pre _ a w h'
    | normal => exact KQ_split pre _ a w h'
    | goto l => exact KQ_split pre _ a w h'
    | ret => exact KQ_split pre _ a w h'
    | panic ch => exact KQ_split pre _ a w h'
    | outgrown => exact KQ_split pre _ a w h'
theorem Sem.split {x y : Code} (pre : List It) (h : Sem P Q (pre ++ .code x :: .code y :: K) s) : Sem P Q (pre ++ .code (.seq x y) :: K) s :=
  fun o β a w hr => KQ_split pre .normal a w (h o β a w hr)
end Go.SL
namespace Go.SL
open Go
def toldL : List Nat → List (Option SK) → List Nat
  | i :: l, some _ :: r => i :: toldL l r
  | _ :: l, none :: r => toldL l r
  | _, _ => []
theorem toldL_mem : ∀ (l : List Nat) (r : List (Option SK)) (i b : Nat) (K : SK), l[i]? = some b → r[i]? = some (some K) → b ∈ toldL l r
  | [], _, i, b, K, h, _ => by simp at h
  | _ :: _, [], i, b, K, _, h => by simp at h
  | j :: l, some K0 :: r, 0, b, K, h, _ => by simp at h; subst h; simp [toldL]
  | j :: l, some K0 :: r, i + 1, b, K, h, h' => by
    have := toldL_mem l r i b K (by simpa using h) (by simpa using h')
    simp [toldL, this]
  | j :: l, none :: r, 0, b, K, _, h' => by simp at h'
  | j :: l, none :: r, i + 1, b, K, h, h' => by
    have := toldL_mem l r i b K (by simpa using h) (by simpa using h')
    simpa [toldL] using this
theorem told_inj : ∀ {l : List Nat} {r : List (Option SK)} (_ : (toldL l r).Nodup) (i j : Nat) (K1 K2 : SK) (b : Nat), r[i]? = some (some K1) → r[j]? = some (some K2) → l[i]? = some b → l[j]? = some b → i = j
  | [], _, _, i, j, K1, K2, b, _, _, h, _ => by simp at h
  | _ :: _, [], _, i, j, K1, K2, b, h, _, _, _ => by simp at h
  | x :: l, none :: r, hn, i, j, K1, K2, b, g1, g2, h1, h2 => by
    cases i with
    | zero => simp at g1
    | succ i =>
      cases j with
      | zero => simp at g2
      | succ j =>
        have := told_inj (l := l) (r := r) hn i j K1 K2 b (by simpa using g1) (by simpa using g2) (by simpa using h1) (by simpa using h2)
        omega
  | x :: l, some K0 :: r, hn, i, j, K1, K2, b, g1, g2, h1, h2 => by
    have hn' : x ∉ toldL l r ∧ (toldL l r).Nodup := by simpa [toldL] using hn
    cases i with
    | zero =>
      cases j with
      | zero => rfl
      | succ j =>
        have e : x = b := by simpa using h1
        exact absurd (toldL_mem l r j b K2 (by simpa using h2) (by simpa using g2)) (by rw [← e]; exact hn'.1)
    | succ i =>
      cases j with
      | zero =>
        have e : x = b := by simpa using h2
        exact absurd (toldL_mem l r i b K1 (by simpa using h1) (by simpa using g1)) (by rw [← e]; exact hn'.1)
      | succ j =>
        have := told_inj (l := l) (r := r) hn'.2 i j K1 K2 b (by simpa using g1) (by simpa using g2) (by simpa using h1) (by simpa using h2)
        omega
section
variable {P : Program} {Q : SX → St → Prop} {K : List It} {s : St} {o : Org} {β : Bt} {a : Act} {w : World}
structure WkMP (l : List Nat) (s s' : St) : Prop where
  sz : s'.sz = s.sz
  base : s'.base = s.base
  blen : s'.base ≤ s'.L.length
  inj : (toldL l s'.L).Nodup
  mv : ∀ i K' j, s'.L[i]? = some (some K') → l[i]? = some j → j < s.base → s.base ≤ i → K'.own = true
  same : l.take s.base = List.range s.base
  env : ∀ n, Ent (fzOf s.L l s'.L) (rho l s.L.length) (lookup s'.env n) (lookup s.env n)
  L : wkL (fzOf s.L l s'.L) (rho l s.L.length) s.L l s'.L
theorem RR.weakenMP {l : List Nat} {s' : St} (h : RR o β s a w) (k : WkMP l s s') : ∃ β', RR o β' s' a w ∧ Ren w (fzOf s.L l s'.L) (rho l s.L.length) β β' := by
  have hlen := wkL_length k.L
  have hrho : ∀ i, i < s.base → rho l s.L.length i = i := by
    intro i hi
    have h1 : (l.take s.base)[i]? = some i := by rw [k.same]; simp [hi]
    rw [List.getElem?_take_of_lt hi] at h1
    have h2 := rho_lt l s.L.length i (List.getElem?_eq_some_iff.1 h1).1
    rw [h1] at h2
    exact (Option.some.inj h2).symm
  have hget : ∀ i K', s'.L[i]? = some (some K') → ∃ K, l[i]? = some (rho l s.L.length i) ∧ s.L[rho l s.L.length i]? = some (some K) ∧ EntK (fzOf s.L l s'.L) (rho l s.L.length) K' K := by
    intro i K' hi
    obtain ⟨j, K, h1, h2, h3⟩ := wkL_get k.L i K' hi
    have h4 := rho_lt l s.L.length i (List.getElem?_eq_some_iff.1 h1).1
    have : j = rho l s.L.length i := by rw [h1] at h4; cases h4; rfl
    subst this
    exact ⟨K, h1, getL_some.1 h2, h3⟩
  have hinj : ∀ i j K1 K2, s'.L[i]? = some (some K1) → s'.L[j]? = some (some K2) → l[i]? = some (rho l s.L.length i) → l[j]? = some (rho l s.L.length j) → rho l s.L.length i = rho l s.L.length j → i = j := by
    intro i j K1 K2 g1 g2 h1 h2 e
    exact told_inj k.inj i j K1 K2 _ g1 g2 h1 (by rw [e]; exact h2)
  let β' : Bt := ⟨fun i => β (rho l s.L.length i), frzM w β (fzOf s.L l s'.L)⟩
  have hren : Ren w (fzOf s.L l s'.L) (rho l s.L.length) β β' := by
    refine ⟨fun i => rfl, fun b c v hv => frzM_old hv, fun i B hz p hp => ?_⟩
    obtain ⟨h1, h2, _⟩ := fzOf_some hz
    obtain ⟨q, hq, rk⟩ := h.heap.blk i _ h1
    rw [hp] at hq
    cases hq
    refine ⟨rk, fun hc c v hv h1v => ?_⟩
    show frzM w β (fzOf s.L l s'.L) p.blk c = some v
    cases hm : β.m p.blk c with
    | some u => exact absurd rfl (h.heap.rosep i _ p p.blk c u h1 h2 hp hc hm)
    | none =>
      unfold frzM
      simp only [hm]
      rw [if_pos ⟨i, B, p, hz, hp, hc, rfl⟩]
      simp only [hv, h1v, if_true]
  have hfrz : ∀ b c v, frzM w β (fzOf s.L l s'.L) b c = some v → β.m b c = some v ∨ ((∃ i B p, s.L[i]? = some (some (.row B)) ∧ B.own = true ∧ keptB l s'.L i = false ∧ β i = some p ∧ 0 < p.cap ∧ p.blk = b) ∧ w.cell? ⟨b, c, none⟩ = some v ∧ v.oneCell' = true) := by
    intro b c v hv
    rcases frzM_some hv with h1 | ⟨⟨i, B, p, hz, hp, hc, e⟩, h2⟩
    · exact .inl h1
    · obtain ⟨z1, z2, z3⟩ := fzOf_some hz
      exact .inr ⟨⟨i, B, p, z1, z2, z3, hp, hc, e⟩, h2⟩
  refine ⟨β', ⟨by rw [k.sz]; exact h.size, fun n => Ent.rel hren _ _ _ (k.env n) (h.env n), ⟨fun i K' hi => ?_, fun i K' p hi hp hc => ?_, fun i j K1 K2 p q hij hi hj hp hq ho hc hc' => ?_, fun i hi => ?_, fun b c v hv => ?_, fun i K' p b c v hi ho hp hc hv e => ?_⟩,
    ⟨h.keep.os, h.keep.tape, h.keep.output, h.keep.size, h.keep.old, fun i K' p hi hp hc => ?_, fun b c v hv => frzM_old (h.keep.mle b c v hv), fun b c v hv => ?_⟩, by rw [k.base]; exact h.base, k.blen, fun i hi => ?_, h.defers⟩, hren⟩
  · obtain ⟨K, _, h2, h3⟩ := hget i K' hi
    obtain ⟨p, hp, rk⟩ := h.heap.blk _ K h2
    exact ⟨p, hp, h3.rel hren rk⟩
  · obtain ⟨K, _, h2, _⟩ := hget i K' hi
    exact h.heap.lt _ K p h2 hp hc
  · obtain ⟨Ka, l1, h2, h3⟩ := hget i K1 hi
    obtain ⟨Kb, l2, h5, _⟩ := hget j K2 hj
    exact h.heap.sep _ _ Ka Kb p q (fun e => hij (hinj i j K1 K2 hi hj l1 l2 e)) h2 h5 hp hq (h3.own ho) hc hc'
  · show β (rho l s.L.length i) = none
    rw [rho_ge l _ i (by omega)]
    exact h.heap.out _ (by omega)
  · rcases hfrz b c v hv with h1 | ⟨⟨i, B, p, z1, z2, z3, hp, hc, e⟩, h2, h3⟩
    · exact h.heap.ro b c v h1
    · exact ⟨h2, h3, by rw [← e]; exact h.heap.lt i _ p z1 hp hc⟩
  · obtain ⟨K, l1, h2, h3⟩ := hget i K' hi
    rcases hfrz b c v hv with h1 | ⟨⟨i0, B, q, z1, z2, z3, hq, hqc, e'⟩, _⟩
    · exact h.heap.rosep _ K p b c v h2 (h3.own ho) hp hc h1 e
    · have hne : rho l s.L.length i ≠ i0 := fun e0 => by
        subst e0
        have := keptB_of l s'.L i _ K' l1 hi
        rw [z3] at this
        cases this
      exact h.heap.sep _ _ K _ p q hne h2 z1 hp hq (h3.own ho) hc hqc (e.trans e'.symm)
  · obtain ⟨K, l1, h2, h3⟩ := hget i K' hi
    rcases h.keep.new _ K p h2 hp hc with h4 | ⟨j, K0, q, hj, hq, hqc, e, ow, hji⟩
    · exact .inl h4
    · refine .inr ⟨j, K0, q, hj, hq, hqc, e, fun o' => ow (h3.own o'), ?_⟩
      rcases hji with hji | hji
      · have hjb : j < s.base := by
          rw [h.base]
          exact (List.getElem?_eq_some_iff.1 hj).1
        rcases Nat.lt_or_ge i s.base with hib | hib
        · left
          rw [hji]
          exact hrho i hib
        · right
          exact ow (h3.own (k.mv i K' _ hi l1 (by rw [← hji]; exact hjb) hib))
      · exact .inr hji
  · rcases hfrz b c v hv with h1 | ⟨⟨i, B, p, z1, z2, z3, hp, hc, e⟩, _⟩
    · exact h.keep.mem b c v h1
    · rcases h.keep.new i _ p z1 hp hc with h4 | ⟨j, K0, q, hj, hq, hqc, e', ow, _⟩
      · exact .inr (.inl (by rw [← e]; exact h4))
      · exact .inr (.inr ⟨j, K0, q, hj, ow z2, hq, hqc, e'.trans e⟩)
  · rw [k.base] at hi
    show β (rho l s.L.length i) = _
    rw [hrho i hi]
    exact h.same i hi
def mvOk (base : Nat) : Nat → List Nat → List (Option SK) → Bool
  | i, j :: l, some K :: r => (Nat.blt i base || Nat.ble base j || K.own) && mvOk base (i + 1) l r
  | i, _ :: l, none :: r => mvOk base (i + 1) l r
  | _, _, _ => true
theorem mvOk_spec (base : Nat) : ∀ (k : Nat) (l : List Nat) (r : List (Option SK)), mvOk base k l r = true → ∀ i K' j, r[i]? = some (some K') → l[i]? = some j → j < base → base ≤ k + i → K'.own = true
  | k, [], _, _, i, K', j, _, h, _, _ => by simp at h
  | k, _ :: _, [], _, i, K', j, h, _, _, _ => by simp at h
  | k, x :: l, none :: r, hm, i, K', j, g, h, hj, hi => by
    cases i with
    | zero => simp at g
    | succ i => exact mvOk_spec base (k + 1) l r hm i K' j (by simpa using g) (by simpa using h) hj (by omega)
  | k, x :: l, some K0 :: r, hm, i, K', j, g, h, hj, hi => by
    simp only [mvOk, Bool.and_eq_true, Bool.or_eq_true] at hm
    cases i with
    | zero =>
      have e1 : K0 = K' := by simpa using g
      have e2 : x = j := by simpa using h
      subst e1 e2
      rcases hm.1 with (h1 | h1) | h1
      · have : k < base := by simpa [Nat.blt_eq] using h1
        omega
      · have : base ≤ x := by simpa using h1
        omega
      · exact h1
    | succ i => exact mvOk_spec base (k + 1) l r hm.2 i K' j (by simpa using g) (by simpa using h) hj (by omega)
def nodupB : List Nat → Bool
  | [] => true
  | x :: l => !(l.contains x) && nodupB l
theorem nodupB_spec : ∀ (l : List Nat), nodupB l = true → l.Nodup
  | [], _ => List.nodup_nil
  | x :: l, h => by
    simp only [nodupB, Bool.and_eq_true, Bool.not_eq_true'] at h
    refine List.nodup_cons.2 (And.intro (fun hm => ?_) (nodupB_spec l h.2))
    have h1 : l.contains x = true := by simpa using hm
    rw [h.1] at h1
    cases h1
structure WkM (l : List Nat) (s s' : St) : Prop where
  sz : s'.sz = s.sz
  base : s'.base = s.base
  blen : Nat.ble s'.base s'.L.length = true
  inj : nodupB (toldL l s'.L) = true
  mv : mvOk s.base 0 l s'.L = true
  same : l.take s.base = List.range s.base
  env : wkEnv (fzOf s.L l s'.L) (rho l s.L.length) s.env s'.env
  L : wkL (fzOf s.L l s'.L) (rho l s.L.length) s.L l s'.L
theorem WkM.toP {l : List Nat} {s s' : St} (k : WkM l s s') : WkMP l s s' :=
  ⟨k.sz, k.base, Nat.le_of_ble_eq_true k.blen, nodupB_spec _ k.inj, fun i K' j h1 h2 h3 h4 => mvOk_spec _ 0 l _ k.mv i K' j h1 h2 h3 (by omega), k.same, wkEnv_get k.env, k.L⟩
theorem RR.weakenM {l : List Nat} {s' : St} (h : RR o β s a w) (k : WkM l s s') : ∃ β', RR o β' s' a w := let ⟨β', h, _⟩ := h.weakenMP k.toP; ⟨β', h⟩
theorem Sem.weakenM {s' : St} (l : List Nat) (k : WkM l s s') (h : Sem P Q K s') : Sem P Q K s := fun o β a w hr => let ⟨β', hr'⟩ := hr.weakenM k; h o β' a w hr'
theorem SemOps.weakenM {all rest : List Oper} {s' : St} (l : List Nat) (k : WkM l s s') (h : SemOps P Q all rest K s') : SemOps P Q all rest K s := fun o β a w hr => let ⟨β', hr'⟩ := hr.weakenM k; h o β' a w hr'
theorem SCall.use {f : FuncId} {args ac : List SV} {L Lc L1 L' : List (Option SK)} {x x' : SV} (l l2 : List Nat) (hc : SCall P f ac Lc fun r M => r = .ret x ∧ M = L1)
    (hargs : EntL nofz (rho l L.length) ac args) (hnd : nodupN l = true) (hL : wkL nofz (rho l L.length) L l Lc)
    (k : WkM l2 ⟨1, L.length, [(0, x.ren (rho l L.length))], mergeL (rho l L.length) L l Lc L1⟩ ⟨1, L.length, [(0, x')], L'⟩) : SCall P f args L fun r M => r = .ret x' ∧ M = L' := by
  intro w β cargs hH hA
  have hnd := nodupN_spec hnd
  have hr : RR ⟨w, β, L⟩ β ⟨0, L.length, [], L⟩ ⟨#[], []⟩ w := ⟨rfl, fun n => trivial, hH, Keep.refl _ _ _, rfl, Nat.le_refl _, fun i hi => rfl, rfl⟩
  refine Calls.mono (hc w _ cargs (hr.heap.view hnd hL) (EntL.rel (Ren.of_ren (w := w) _) _ _ _ hargs hA)) fun e w' ⟨β', M, r, ⟨e1, e2⟩, hrel, hh, hk, hlen', hsame⟩ => ?_
  subst e1 e2
  obtain ⟨v, rfl, hv⟩ := hrel
  obtain ⟨β2, hr2, hren, _⟩ := hr.called hnd hL hh hk hlen' hsame
  have hr3 : RR ⟨w, β, L⟩ β2 ⟨1, L.length, [(0, x.ren (rho l L.length))], mergeL (rho l L.length) L l Lc M⟩ ⟨#[v], []⟩ w' := by
    refine ⟨rfl, fun n => ?_, hr2.heap, hr2.keep, hr2.base, hr2.blen, hr2.same, rfl⟩
    cases n with
    | zero => exact RelV.ren hren x v hv
    | succ n => exact trivial
  obtain ⟨β3, h3⟩ := hr3.weakenM k
  exact ⟨β3, L', .ret x', ⟨rfl, rfl⟩, ⟨v, rfl, h3.env 0⟩, h3.heap, h3.keep, h3.blen, h3.same⟩
theorem SQ.fin {fn : Func} {R : SE → List (Option SK) → Prop} (h : SQ P fn R .ret s) : SQ P fn R .normal s := h
end
end Go.SL
