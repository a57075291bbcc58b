/- The eighteenth part of the layer: a slice that is handed in by its content for one call, and is owned again behind it. -/
import Derived.Test.YtheodenjjaoncaaSlR
set_option linter.unusedVariables false
set_option linter.unusedSimpArgs false
namespace Go.SL
open Go
section
variable {P : Program} {s : St}
theorem OpSem.lend {s1 : St} {op : Oper} {fo : Operand} {argos : Array Operand} {ats : Array TypeId} {f : FuncId} {x : SV} {N : St → Prop} {ac : List SV} (hl : ∀ o β a w, RR o β s a w → ∃ β1, RR o β1 s1 a w)
    (hcal : Cal P f) (hc : Pure P f ac x) (hop : op.op = .call ⟨.value fo, argos, ats⟩) (hfv : seval s1.env fo = .fn (.func f) [] [])
    (hargs : argos.toList.map (seval s1.env) = ac) (hren : SV.flatL ac = true) (hx : ∀ β β' v, RelV β x v → RelV β' x v)
    (hd : dstOk s op.dst) (next : N (s.put op.dst x)) : OpSem P op N s := by
  obtain ⟨fn, hfn, hbody, hname⟩ := hcal
  intro o β a w hr
  obtain ⟨β1, hr1⟩ := hl o β a w hr
  have hf := eval_rel hr1 fo
  rw [hfv] at hf
  obtain ⟨c1, c2, hfe, hfi, hca⟩ := hf
  have hrun : (execOp a.eval op).run P w = .ok (.enter f (c1 ++ argos.map a.eval ++ c2)) w := by
    have hn : fn.body.isNone = false := by cases hb : fn.body <;> simp [hb] at hbody ⊢
    simp only [execOp, hop, resolve, Deferred.ofValue, hfe, Sem.run_bind, Sem.run_pure, Result.andThen_ok, invoke, callFunc, run_program, hfn, hname, hn, Bool.false_eq_true, if_false]
  unfold stepTo
  rw [hrun]
  have hrelA : RelL β1 ([] ++ argos.toList.map (seval s1.env) ++ []) (c1 ++ argos.map a.eval ++ c2).toList := by
    have h1 : RelL β1 (argos.toList.map (seval s1.env)) (argos.toList.map a.eval) := relL_map (fun x => eval_rel hr1 x) _
    have := (hfi.append h1).append hca
    simpa using this
  rw [List.nil_append, List.append_nil, hargs, ← SV.flatL_ren (rho [] s1.L.length) ac hren] at hrelA
  have hv0 : RelH w (β.ren (rho [] s.L.length)) [] := hr.heap.view (l := []) List.nodup_nil trivial
  refine (hc w _ _ (hr1.heap.view (l := []) List.nodup_nil trivial) (RelL.of_ren _ _ hrelA)).mono fun e w' ⟨β', L', r, hR, hrel, hh, hk, hlen', hsame⟩ => ?_
  obtain ⟨rfl, rfl⟩ := hR
  obtain ⟨v, rfl, hv⟩ := hrel
  have hold : ∀ g, g < w.heap.size → w'.heap[g]? = w.heap[g]? := fun g hg => hk.old g hg fun i K p h => by simp at h
  have hh0 : RelH w' (β.ren (rho [] s.L.length)) [] :=
    ⟨fun i K h => by simp at h, fun i K p h => by simp at h, fun i j K K' p q _ h => by simp at h, hv0.out, fun b o v hm => by
      obtain ⟨g1, g2, g3⟩ := hv0.ro b o v hm
      exact ⟨by rw [cell_congr (hold b g3)]; exact g1, g2, Nat.lt_of_lt_of_le g3 hk.size⟩, fun i K p b o v h => by simp at h⟩
  have hk0 : Keep w (β.ren (rho [] s.L.length)) [] w' (β.ren (rho [] s.L.length)) [] :=
    ⟨hk.os, hk.tape, hk.output, hk.size, fun g hg _ => hold g hg, fun i K p h => by simp at h, fun _ _ _ h => h, fun _ _ _ h => .inl h⟩
  obtain ⟨β2, hr2, _, hle2⟩ := hr.called (l := []) (Lc := []) (L' := []) List.nodup_nil trivial hh0 hk0 (Nat.le_refl _) (fun i hi => absurd hi (by simp))
  rw [after_nil] at hr2
  exact ⟨v, rfl, β2, _, next, hr2.put hd (hx _ _ v hv), hle2.m⟩
theorem SemOps.ofOp {all rest : List Oper} {K : List It} {Q : SX → St → Prop} {op : Oper} {fo : Operand} {argos : Array Operand} {ats : Array TypeId} (hop : op.op = .call ⟨.value fo, argos, ats⟩) (hg : op.guard = none) (h : OpSem P op (SemOps P Q all rest K) s) : SemOps P Q all (op :: rest) K s := by
  intro o β a w hr
  have := h o β a w hr
  unfold wpList
  rw [if_pos (by simp [Region.wanted, hg])]
  left
  unfold stepTo at this
  unfold Oper.wp
  generalize Sem.run P (execOp a.eval op) w = r at this ⊢
  split at this
  · obtain ⟨β', s', h1, h2, _⟩ := this
    exact h1 o β' _ _ h2
  · obtain ⟨β', s', h1, h2, _⟩ := this
    exact h1 o β' _ _ h2
  · rw [Oper.upon_enter]
    exact this.mono fun e w'' ⟨v, he, β', s', h1, h2, _⟩ => by
      subst he
      exact h1 o β' _ _ h2
  · exact this.elim
/-- A slice that is owned, told by its content. -/
def Lent (P : Program) (s s1 : St) : Prop := ∀ o β a w, RR o β s a w → ∃ β1, RR o β1 s1 a w
theorem Lent.refl : Lent P s s := fun _ β _ _ h => ⟨β, h⟩
theorem Lent.frz {s0 : St} {d b e n m z : Nat} {ty : TypeId} {el : Nat → List SV} (h0 : Lent P s0 s) (rows : List (List SV)) (hd : lookup s.env d = .slc b e n) (hL : getL s.L b = some (.row ⟨z, m, true, ty, el⟩)) (hlen : rows.length = n) (hm : e + n ≤ m)
    (hel : ∀ (i : Nat) r, rows[i]? = some r → EntL nofz (fun i => i) r (el (e + i))) : Lent P s0 ⟨s.sz, s.base, (d, .rsl z rows) :: s.env, s.L.set b none⟩ :=
  fun o β a w hr => let ⟨β1, hr1⟩ := h0 o β a w hr
    let ⟨β', hr', _⟩ := hr1.frz rows hd hL hlen hm hel
    ⟨β', hr'⟩
theorem SemOps.lend {all rest : List Oper} {K : List It} {Q : SX → St → Prop} {s1 : St} {op : Oper} {fo : Operand} {argos : Array Operand} {ats : Array TypeId} {f : FuncId} {x : SV} {k : Nat} {ac : List SV} (hl : Lent P s s1)
    (hcal : Cal P f) (hc : Pure P f ac x) (hop : op.op = .call ⟨.value fo, argos, ats⟩) (hg : op.guard = none) (hfv : seval s1.env fo = .fn (.func f) [] [])
    (hargs : argos.toList.map (seval s1.env) = ac) (hren : SV.flatL ac = true) (hx : ∀ β β' v, RelV β x v → RelV β' x v)
    (hd : dstOk s op.dst) (next : swOps P Q (sw P Q k) all rest K (s.put op.dst x)) : SemOps P Q all (op :: rest) K s :=
  SemOps.ofOp hop hg (OpSem.lend hl hcal hc hop hfv hargs hren hx hd (SemOps.go next))
end
end Go.SL
