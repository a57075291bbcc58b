/- The nineteenth part of the layer: a call that answers a slice of its own. -/
import Derived.Test.YtheodenjjaoncaaSlS
set_option linter.unusedVariables false
set_option linter.unusedSimpArgs false
namespace Go.SL
open Go
section
variable {P : Program} {s : St}
/-- A function of values that answers a slice that nobody else has. -/
def Owns (P : Program) (f : FuncId) (ac : List SV) (z n : Nat) (ty : TypeId) (el : Nat → List SV) : Prop :=
  SCall P f ac [] fun r L => r = .ret (.slc 0 0 n) ∧ L = [some (.row ⟨z, n, true, ty, el⟩)]
theorem SemOps.callo {all rest : List Oper} {K : List It} {Q : SX → St → Prop} {op : Oper} {fo : Operand} {argos : Array Operand} {ats : Array TypeId} {f : FuncId} {k z n : Nat} {ty : TypeId} {el : Nat → List SV} {ac : List SV}
    (hcal : Cal P f) (hc : Owns P f ac z n ty el) (hop : op.op = .call ⟨.value fo, argos, ats⟩) (hg : op.guard = none) (hfv : seval s.env fo = .fn (.func f) [] [])
    (hargs : argos.toList.map (seval s.env) = ac) (hren : SV.flatL ac = true) (hel : ∀ e, SV.flatL (el e) = true)
    (hd : dstOk s op.dst) (next : swOps P Q (sw P Q k) all rest K ((⟨s.sz, s.base, s.env, s.L ++ [some (.row ⟨z, n, true, ty, el⟩)]⟩ : St).put op.dst (.slc s.L.length 0 n))) : SemOps P Q all (op :: rest) K s := by
  obtain ⟨fn, hfn, hbody, hname⟩ := hcal
  refine SemOps.call hop hg hfv hfn hbody hname [] hc (by rw [SV.flatL_ren _ _ hren]; simpa using hargs) List.nodup_nil trivial hd (fun r L' h => ?_) (fun x L' h => nomatch h.1)
  obtain ⟨h1, rfl⟩ := h
  cases h1
  have e : s.after [] [] [some (.row ⟨z, n, true, ty, el⟩)] = ⟨s.sz, s.base, s.env, s.L ++ [some (.row ⟨z, n, true, ty, el⟩)]⟩ := by
    cases s
    have h2 : (fun e => SV.renL (rho [] (List.length ‹_›)) (el e)) = el := funext fun e => SV.flatL_ren _ _ (hel e)
    simp only [St.after, mergeL, List.map_cons, List.map_nil, Option.map_some, SK.ren, SB.ren, h2]
  rw [e]
  exact SemOps.go next
end
def updE (n : Nat) (el : Nat → List SV) (e k : Nat) (l : List SV) : Nat → List SV := if n = 1 then fun _ => splice (el 0) k l else fun i => if i = e then splice (el e) k l else el i
theorem updE_at (n : Nat) (el : Nat → List SV) (e k : Nat) (l : List SV) (i : Nat) (he : e < n) (hi : i < n) : updE n el e k l i = if i = e then splice (el e) k l else el i := by
  unfold updE
  split
  · obtain rfl : e = 0 := by omega
    obtain rfl : i = 0 := by omega
    rw [if_pos rfl]
  · rfl
theorem sstore2_nint (z n : Nat) (ty : TypeId) (el : Nat → List SV) (kk : IntKind) (x : Int) (b e k : Nat) (h1 : k + 1 ≤ z) :
    sstore2 (some (.row ⟨z, n, true, ty, el⟩)) (some 1) (some [.v (.int kk x)]) b e k = some ⟨.any, ⟨some (b, some (.row ⟨z, n, true, ty, updE n el e k [.v (.int kk x)]⟩)), none⟩, e < n⟩ := by
  have h : SB.upd ⟨z, n, true, ty, el⟩ e k [.v (.int kk x)] = ⟨z, n, true, ty, updE n el e k [.v (.int kk x)]⟩ := by
    unfold SB.upd updE
    split <;> rfl
  simp only [sstore2, h]
  rw [if_pos ⟨h1, rfl, rfl, trivial⟩]
end Go.SL
