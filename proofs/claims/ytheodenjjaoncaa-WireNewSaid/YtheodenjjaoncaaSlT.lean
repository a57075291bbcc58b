/- The nineteenth part of the layer: a call that answers a slice of its own. -/
import Derived.Test.YtheodenjjaoncaaSlS
set_option linter.unusedVariables false
set_option linter.unusedSimpArgs false
namespace Go.SL
open Go
section
variable {P : Program} {s : St}
/-- A function of values that answers a slice that nobody else has. -/
def Owns (P : Program) (f : FuncId) (ac : List SV) (z n : Nat) (ty : TypeId) (el : Nat → List SV) : Prop :=
  SCall P f ac [] fun r L => r = .ret (.slc 0 0 n) ∧ L = [some (.row ⟨z, n, true, ty, el⟩)]
theorem SemOps.callo {all rest : List Oper} {K : List It} {Q : SX → St → Prop} {op : Oper} {fo : Operand} {argos : Array Operand} {ats : Array TypeId} {f : FuncId} {k z n : Nat} {ty : TypeId} {el : Nat → List SV} {ac : List SV}
    (hcal : Cal P f) (hc : Owns P f ac z n ty el) (hop : op.op = .call ⟨.value fo, argos, ats⟩) (hg : op.guard = none) (hfv : seval s.env fo = .fn (.func f) [] [])
    (hargs : argos.toList.map (seval s.env) = ac) (hren : SV.flatL ac = true) (hel : ∀ e, SV.flatL (el e) = true)
    (hd : dstOk s op.dst) (next : swOps P Q (sw P Q k) all rest K ((⟨s.sz, s.base, s.env, s.L ++ [some (.row ⟨z, n, true, ty, el⟩)]⟩ : St).put op.dst (.slc s.L.length 0 n))) : SemOps P Q all (op :: rest) K s := by
  obtain ⟨fn, hfn, hbody, hname⟩ := hcal
  refine SemOps.call hop hg hfv hfn hbody hname [] hc (by rw [SV.flatL_ren _ _ hren]; simpa using hargs) List.nodup_nil trivial hd (fun r L' h => ?_) (fun x L' h => nomatch h.1)
  obtain ⟨h1, rfl⟩ := h
  cases h1
  have e : s.after [] [] [some (.row ⟨z, n, true, ty, el⟩)] = ⟨s.sz, s.base, s.env, s.L ++ [some (.row ⟨z, n, true, ty, el⟩)]⟩ := by
    cases s
    have h2 : (fun e => SV.renL (rho [] (List.length ‹_›)) (el e)) = el := funext fun e => SV.flatL_ren _ _ (hel e)
    simp only [St.after, mergeL, List.map_cons, List.map_nil, Option.map_some, SK.ren, SB.ren, h2]
  rw [e]
  exact SemOps.go next
end
end Go.SL
