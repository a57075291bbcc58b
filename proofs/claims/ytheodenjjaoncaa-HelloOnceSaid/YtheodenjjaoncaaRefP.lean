/- Contracts of functions that the laws reach, on abstract values, and what they need: no conditions but those that each theorem states. -/
import Derived.Test.YtheodenjjaoncaaHelR
import Derived.Test.YtheodenjjaoncaaWinP
set_option linter.unusedVariables false
set_option linter.unusedSimpArgs false
set_option linter.defProp false
namespace Go.SL
open Go
structure RE where
  id : I16
  up : SV
  op : SV
  mi : SV
  mn : SV
  pi : SV
  pn : SV
  pid : I16
  wt : SV
  wk : SV
  wg : SV
def RE.c (x : RE) : List SV := (x.id.c ++ (x.up :: (x.op :: (x.mi :: (x.mn :: (x.pi :: (x.pn :: (x.pid.c ++ (x.wt :: (x.wk :: (x.wg :: [])))))))))))
theorem RE.c_length (x : RE) : x.c.length = 41 := by simp [RE.c, I16.c_length]
theorem RE.part_id (x : RE) : spart true x.c 0 16 = .agg x.id.c := by simp [spart, RE.c, List.drop_append, List.take_append, I16.c_length, List.take_of_length_le, List.drop_of_length_le]
theorem RE.set_id (x : RE) (v : I16) : splice x.c 0 v.c = RE.c { x with id := v } := by simp [splice, RE.c, List.drop_append, List.take_append, I16.c_length, List.take_of_length_le, List.drop_of_length_le]
theorem RE.at_up (x : RE) : cellAt x.c 16 = x.up := cellAt_get _ _ _ (by simp [RE.c, List.getElem?_append, I16.c_length])
theorem RE.set_up (x : RE) (v : SV) : splice x.c 16 [v] = RE.c { x with up := v } := by simp [splice, RE.c, List.drop_append, List.take_append, I16.c_length, List.take_of_length_le, List.drop_of_length_le]
theorem RE.at_op (x : RE) : cellAt x.c 17 = x.op := cellAt_get _ _ _ (by simp [RE.c, List.getElem?_append, I16.c_length])
theorem RE.set_op (x : RE) (v : SV) : splice x.c 17 [v] = RE.c { x with op := v } := by simp [splice, RE.c, List.drop_append, List.take_append, I16.c_length, List.take_of_length_le, List.drop_of_length_le]
theorem RE.part_pid (x : RE) : spart true x.c 22 16 = .agg x.pid.c := by simp [spart, RE.c, List.drop_append, List.take_append, I16.c_length, List.take_of_length_le, List.drop_of_length_le]
theorem RE.set_pid (x : RE) (v : I16) : splice x.c 22 v.c = RE.c { x with pid := v } := by simp [splice, RE.c, List.drop_append, List.take_append, I16.c_length, List.take_of_length_le, List.drop_of_length_le]
theorem RE.part_mine (x : RE) : spart true x.c 18 2 = .agg ([x.mi, x.mn]) := by simp [spart, RE.c, List.drop_append, List.take_append, I16.c_length, List.take_of_length_le, List.drop_of_length_le]
theorem RE.set_mine (x : RE) (u_mi : SV) (u_mn : SV) : splice x.c 18 ([u_mi, u_mn]) = RE.c { x with mi := u_mi, mn := u_mn } := by simp [splice, RE.c, List.drop_append, List.take_append, I16.c_length, List.take_of_length_le, List.drop_of_length_le]
theorem RE.part_peer (x : RE) : spart true x.c 20 2 = .agg ([x.pi, x.pn]) := by simp [spart, RE.c, List.drop_append, List.take_append, I16.c_length, List.take_of_length_le, List.drop_of_length_le]
theorem RE.set_peer (x : RE) (u_pi : SV) (u_pn : SV) : splice x.c 20 ([u_pi, u_pn]) = RE.c { x with pi := u_pi, pn := u_pn } := by simp [splice, RE.c, List.drop_append, List.take_append, I16.c_length, List.take_of_length_le, List.drop_of_length_le]
theorem RE.set_w (x : RE) (u_wt : SV) (u_wk : SV) (u_wg : SV) : splice x.c 38 ([u_wt, u_wk, u_wg]) = RE.c { x with wt := u_wt, wk := u_wk, wg := u_wg } := by simp [splice, RE.c, List.drop_append, List.take_append, I16.c_length, List.take_of_length_le, List.drop_of_length_le]
theorem RE.part (x : RE) : spart true x.c 0 41 = .agg x.c := by simp [spart, List.take_of_length_le, RE.c_length]
theorem RE.set_all (x y : RE) : splice x.c 0 y.c = y.c := splice_all _ _ (by rw [RE.c_length, RE.c_length])
theorem RE.one (x : RE) : x.c.all SV.one = (x.up.one && x.op.one && x.mi.one && x.mn.one && x.pi.one && x.pn.one && x.wt.one && x.wk.one && x.wg.one) := by simp [RE.c, List.all_append, I16.one, Bool.and_assoc]
theorem RE.flat (x : RE) : SV.flatL x.c = (x.up.flat && x.op.flat && x.mi.flat && x.mn.flat && x.pi.flat && x.pn.flat && x.wt.flat && x.wk.flat && x.wg.flat) := by simp [RE.c, flatL_cons, flatL_app, I16.flat, flatL_nil, Bool.and_assoc]
theorem RE.renc (ρ : Nat → Nat) (x : RE) : SV.renL ρ x.c = RE.c ⟨x.id, SV.ren ρ x.up, SV.ren ρ x.op, SV.ren ρ x.mi, SV.ren ρ x.mn, SV.ren ρ x.pi, SV.ren ρ x.pn, x.pid, SV.ren ρ x.wt, SV.ren ρ x.wk, SV.ren ρ x.wg⟩ := by simp [RE.c, renL_cons, renL_append, renL_flat _ _ (I16.flat _), renL_nil]
theorem RE.ent {fz : Nat → Option SB} {ρ : Nat → Nat} (id : I16) (up : SV) (op : SV) (mi : SV) (mn : SV) (pi : SV) (pn : SV) (pid : I16) (wt : SV) (wk : SV) (wg : SV) (up' : SV) (op' : SV) (mi' : SV) (mn' : SV) (pi' : SV) (pn' : SV) (wt' : SV) (wk' : SV) (wg' : SV) : EntL fz ρ (RE.c ⟨id, up, op, mi, mn, pi, pn, pid, wt, wk, wg⟩) (RE.c ⟨id, up', op', mi', mn', pi', pn', pid, wt', wk', wg'⟩) = (Ent fz ρ up up' ∧ Ent fz ρ op op' ∧ Ent fz ρ mi mi' ∧ Ent fz ρ mn mn' ∧ Ent fz ρ pi pi' ∧ Ent fz ρ pn pn' ∧ Ent fz ρ wt wt' ∧ Ent fz ρ wk wk' ∧ Ent fz ρ wg wg') := by
  simp only [RE.c, EntL_pre _ _ _ (I16.flat _), EntL_cons, EntL_nil, and_true, EntL_self _ (I16.flat _)]
end Go.SL
namespace Go.Proofs
open Go Go.SL
set_option maxRecDepth 100000
def zR : RE := ⟨I16.zero, .v (.bool false), .v (.bool false), .v (.int .i64 0), .v (.int .i64 0), .v (.int .i64 0), .v (.int .i64 0), I16.zero, .v (.slice none 0 0), .v (.int .i64 0), .v (.int .i64 0)⟩
end Go.Proofs
namespace Go.SL
open Go
end Go.SL
namespace Go.Proofs
open Go Go.SL
set_option maxRecDepth 100000
end Go.Proofs
namespace Go.Proofs
open Go Go.SL
set_option maxRecDepth 100000
end Go.Proofs
namespace Go.Proofs
open Go Go.SL
set_option maxRecDepth 100000
end Go.Proofs
namespace Go.Proofs
open Go Go.SL
set_option maxRecDepth 100000
end Go.Proofs
namespace Go.Proofs
open Go Go.SL
set_option maxRecDepth 100000
end Go.Proofs
namespace Go.Proofs
open Go Go.SL
set_option maxRecDepth 100000
end Go.Proofs
namespace Go.Proofs
open Go Go.SL
set_option maxRecDepth 100000
end Go.Proofs
namespace Go.Proofs
open Go Go.SL
set_option maxRecDepth 100000
end Go.Proofs
