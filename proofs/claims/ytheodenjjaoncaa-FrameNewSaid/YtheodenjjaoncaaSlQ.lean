/- Contracts of functions that the laws reach, on abstract values, and what they need: no conditions but those that each theorem states. -/
import Derived.Test.YtheodenjjaoncaaSlP
set_option linter.unusedVariables false
set_option linter.unusedSimpArgs false
set_option linter.defProp false
namespace Go.SL
open Go
section
variable {P : Program} {s : St}
theorem OpSem.frz {op : Oper} {N : St → Prop} {d b e n m z : Nat} {ty : TypeId} {el : Nat → List SV} (rows : List (List SV)) (hd : lookup s.env d = .slc b e n) (hL : getL s.L b = some (.row ⟨z, m, true, ty, el⟩)) (hlen : rows.length = n) (hm : e + n ≤ m)
    (hel : ∀ (i : Nat) r, rows[i]? = some r → EntL nofz (fun i => i) r (el (e + i))) (h : OpSem P op N ⟨s.sz, s.base, (d, .rsl z rows) :: s.env, s.L.set b none⟩) : OpSem P op N s :=
  fun o _ a w hr => let ⟨β', hr', hm⟩ := hr.frz rows hd hL hlen hm hel
    stepTo_mono (fun _ _ ⟨β2, s', h1, h2, h3⟩ => ⟨β2, s', h1, h2, fun b c v hv => h3 b c v (hm b c v hv)⟩) (h o β' a w hr')
end
end Go.SL
