/- Contracts of functions that the laws reach, on abstract values, and what they need: no conditions but those that each theorem states. -/
import Derived.Test.YtheodenjjaoncaaHelQ
set_option linter.unusedVariables false
set_option linter.unusedSimpArgs false
set_option linter.defProp false
namespace Go.Proofs
open Go Go.SL
set_option maxRecDepth 100000
end Go.Proofs
namespace Go.SL
open Go
theorem flatR_getD : ∀ (rows : List (List SV)) (i : Nat) (r : List SV), SV.flatR rows = true → rows[i]? = some r → SV.flatL r = true
  | [], i, r, _, h => by simp at h
  | x :: rows, 0, r, hf, h => by
    simp only [flatR_cons, Bool.and_eq_true] at hf
    simp only [List.getElem?_cons_zero, Option.some.injEq] at h
    exact h ▸ hf.1
  | x :: rows, i + 1, r, hf, h => by
    simp only [flatR_cons, Bool.and_eq_true] at hf
    exact flatR_getD rows i r hf.2 (by simpa using h)
end Go.SL
namespace Go.Proofs
open Go Go.SL
set_option maxRecDepth 100000
end Go.Proofs
namespace Go.SL
open Go
structure SU where
  who : I16
  pn : SV
  a : I16
  b : I16
  tr : SV
def SU.c (x : SU) : List SV := (x.who.c ++ (x.pn :: (x.a.c ++ (x.b.c ++ (x.tr :: [])))))
theorem SU.c_length (x : SU) : x.c.length = 50 := by simp [SU.c, I16.c_length]
theorem SU.set_who (x : SU) (v : I16) : splice x.c 0 v.c = SU.c { x with who := v } := by simp [splice, SU.c, List.take_append, I16.c_length]
theorem SU.at_pn (x : SU) : cellAt x.c 16 = x.pn := cellAt_get _ _ _ (by simp [SU.c, I16.c_length])
theorem SU.set_pn (x : SU) (v : SV) : splice x.c 16 [v] = SU.c { x with pn := v } := by simp [splice, SU.c, List.drop_append, I16.c_length, List.drop_of_length_le]
theorem SU.part_a (x : SU) : spart true x.c 17 16 = .agg x.a.c := by simp [spart, SU.c, List.drop_append, I16.c_length, List.drop_of_length_le]
theorem SU.set_a (x : SU) (v : I16) : splice x.c 17 v.c = SU.c { x with a := v } := by simp [splice, SU.c, List.drop_append, List.take_append, I16.c_length, List.take_of_length_le, List.drop_of_length_le]
theorem SU.part_b (x : SU) : spart true x.c 33 16 = .agg x.b.c := by simp [spart, SU.c, List.drop_append, I16.c_length, List.drop_of_length_le]
theorem SU.set_b (x : SU) (v : I16) : splice x.c 33 v.c = SU.c { x with b := v } := by simp [splice, SU.c, List.drop_append, List.take_append, I16.c_length, List.take_of_length_le, List.drop_of_length_le]
theorem SU.at_tr (x : SU) : cellAt x.c 49 = x.tr := cellAt_get _ _ _ (by simp [SU.c, I16.c_length])
theorem SU.set_tr (x : SU) (v : SV) : splice x.c 49 [v] = SU.c { x with tr := v } := by simp [splice, SU.c, List.take_append, I16.c_length, List.take_of_length_le, List.drop_of_length_le]
theorem SU.part_P (x : SU) : spart true x.c 0 17 = .agg ((x.who.c ++ [x.pn])) := by simp [spart, SU.c, List.drop_append, List.take_append, I16.c_length, List.take_of_length_le]
theorem SU.set_P (x : SU) (u_who : I16) (u_pn : SV) : splice x.c 0 ((u_who.c ++ [u_pn])) = SU.c { x with who := u_who, pn := u_pn } := by simp [splice, SU.c, List.drop_append, List.take_append, I16.c_length, List.drop_of_length_le]
theorem SU.part (x : SU) : spart true x.c 0 50 = .agg x.c := by simp [spart, List.take_of_length_le, SU.c_length]
theorem SU.set_all (x y : SU) : splice x.c 0 y.c = y.c := splice_all _ _ (by rw [SU.c_length, SU.c_length])
theorem SU.one (x : SU) : x.c.all SV.one = (x.pn.one && x.tr.one) := by simp [SU.c, List.all_append, I16.one]
theorem SU.flat (x : SU) : SV.flatL x.c = (x.pn.flat && x.tr.flat) := by simp [SU.c, flatL_cons, flatL_app, I16.flat, flatL_nil]
theorem SU.ent {fz : Nat → Option SB} {ρ : Nat → Nat} (who : I16) (pn : SV) (a : I16) (b : I16) (tr : SV) (pn' : SV) (tr' : SV) : EntL fz ρ (SU.c ⟨who, pn, a, b, tr⟩) (SU.c ⟨who, pn', a, b, tr'⟩) = (Ent fz ρ pn pn' ∧ Ent fz ρ tr tr') := by
  simp only [SU.c, EntL_pre _ _ _ (I16.flat _), EntL_cons, EntL_nil, and_true]
structure DR where
  who : I16
  pn : SV
def DR.c (x : DR) : List SV := (x.who.c ++ (x.pn :: []))
theorem DR.c_length (x : DR) : x.c.length = 17 := by simp [DR.c, I16.c_length]
theorem DR.set_who (x : DR) (v : I16) : splice x.c 0 v.c = DR.c { x with who := v } := by simp [splice, DR.c, List.take_append, I16.c_length]
theorem DR.at_pn (x : DR) : cellAt x.c 16 = x.pn := cellAt_get _ _ _ (by simp [DR.c, I16.c_length])
theorem DR.set_pn (x : DR) (v : SV) : splice x.c 16 [v] = DR.c { x with pn := v } := by simp [splice, DR.c, I16.c_length, List.drop_of_length_le]
theorem DR.part_P (x : DR) : spart true x.c 0 17 = .agg ((x.who.c ++ [x.pn])) := by simp [spart, DR.c, List.drop_append, I16.c_length, List.take_of_length_le]
theorem DR.set_P (x : DR) (u_who : I16) (u_pn : SV) : splice x.c 0 ((u_who.c ++ [u_pn])) = DR.c { x with who := u_who, pn := u_pn } := by simp [splice, DR.c, List.take_append, I16.c_length, List.drop_of_length_le]
theorem DR.set_all (x y : DR) : splice x.c 0 y.c = y.c := splice_all _ _ (by rw [DR.c_length, DR.c_length])
theorem DR.one (x : DR) : x.c.all SV.one = (x.pn.one) := by simp [DR.c, List.all_append, I16.one]
theorem DR.flat (x : DR) : SV.flatL x.c = (x.pn.flat) := by simp [DR.c, flatL_cons, flatL_app, I16.flat, flatL_nil]
theorem DR.ent {fz : Nat → Option SB} {ρ : Nat → Nat} (who : I16) (pn : SV) (pn' : SV) : EntL fz ρ (DR.c ⟨who, pn⟩) (DR.c ⟨who, pn'⟩) = (Ent fz ρ pn pn') := by
  simp only [DR.c, EntL_pre _ _ _ (I16.flat _), EntL_cons, EntL_nil, and_true]
structure PT where
  who : I16
  pn : SV
  toA : SV
def PT.c (x : PT) : List SV := (x.who.c ++ (x.pn :: (x.toA :: [])))
theorem PT.c_length (x : PT) : x.c.length = 18 := by simp [PT.c, I16.c_length]
theorem PT.set_who (x : PT) (v : I16) : splice x.c 0 v.c = PT.c { x with who := v } := by simp [splice, PT.c, List.take_append, I16.c_length]
theorem PT.at_pn (x : PT) : cellAt x.c 16 = x.pn := cellAt_get _ _ _ (by simp [PT.c, I16.c_length])
theorem PT.set_pn (x : PT) (v : SV) : splice x.c 16 [v] = PT.c { x with pn := v } := by simp [splice, PT.c, List.drop_append, I16.c_length, List.drop_of_length_le]
theorem PT.at_toA (x : PT) : cellAt x.c 17 = x.toA := cellAt_get _ _ _ (by simp [PT.c, I16.c_length])
theorem PT.set_toA (x : PT) (v : SV) : splice x.c 17 [v] = PT.c { x with toA := v } := by simp [splice, PT.c, List.take_append, I16.c_length, List.take_of_length_le, List.drop_of_length_le]
theorem PT.part_P (x : PT) : spart true x.c 0 17 = .agg ((x.who.c ++ [x.pn])) := by simp [spart, PT.c, List.drop_append, List.take_append, I16.c_length, List.take_of_length_le]
theorem PT.set_P (x : PT) (u_who : I16) (u_pn : SV) : splice x.c 0 ((u_who.c ++ [u_pn])) = PT.c { x with who := u_who, pn := u_pn } := by simp [splice, PT.c, List.drop_append, List.take_append, I16.c_length, List.drop_of_length_le]
theorem PT.part (x : PT) : spart true x.c 0 18 = .agg x.c := by simp [spart, List.take_of_length_le, PT.c_length]
theorem PT.set_all (x y : PT) : splice x.c 0 y.c = y.c := splice_all _ _ (by rw [PT.c_length, PT.c_length])
theorem PT.one (x : PT) : x.c.all SV.one = (x.pn.one && x.toA.one) := by simp [PT.c, List.all_append, I16.one]
theorem PT.flat (x : PT) : SV.flatL x.c = (x.pn.flat && x.toA.flat) := by simp [PT.c, flatL_cons, flatL_app, I16.flat, flatL_nil]
theorem PT.ent {fz : Nat → Option SB} {ρ : Nat → Nat} (who : I16) (pn : SV) (toA : SV) (pn' : SV) (toA' : SV) : EntL fz ρ (PT.c ⟨who, pn, toA⟩) (PT.c ⟨who, pn', toA'⟩) = (Ent fz ρ pn pn' ∧ Ent fz ρ toA toA') := by
  simp only [PT.c, EntL_pre _ _ _ (I16.flat _), EntL_cons, EntL_nil, and_true]
structure PE where
  who : I16
  pn : SV
  toA : SV
  is : SV
def PE.c (x : PE) : List SV := (x.who.c ++ (x.pn :: (x.toA :: (x.is :: []))))
theorem PE.c_length (x : PE) : x.c.length = 19 := by simp [PE.c, I16.c_length]
theorem PE.set_who (x : PE) (v : I16) : splice x.c 0 v.c = PE.c { x with who := v } := by simp [splice, PE.c, List.take_append, I16.c_length]
theorem PE.at_pn (x : PE) : cellAt x.c 16 = x.pn := cellAt_get _ _ _ (by simp [PE.c, I16.c_length])
theorem PE.set_pn (x : PE) (v : SV) : splice x.c 16 [v] = PE.c { x with pn := v } := by simp [splice, PE.c, List.drop_append, I16.c_length, List.drop_of_length_le]
theorem PE.at_toA (x : PE) : cellAt x.c 17 = x.toA := cellAt_get _ _ _ (by simp [PE.c, I16.c_length])
theorem PE.set_toA (x : PE) (v : SV) : splice x.c 17 [v] = PE.c { x with toA := v } := by simp [splice, PE.c, List.drop_append, List.take_append, I16.c_length, List.take_of_length_le, List.drop_of_length_le]
theorem PE.at_is (x : PE) : cellAt x.c 18 = x.is := cellAt_get _ _ _ (by simp [PE.c, I16.c_length])
theorem PE.set_is (x : PE) (v : SV) : splice x.c 18 [v] = PE.c { x with is := v } := by simp [splice, PE.c, List.take_append, I16.c_length, List.take_of_length_le, List.drop_of_length_le]
theorem PE.part_P (x : PE) : spart true x.c 0 17 = .agg ((x.who.c ++ [x.pn])) := by simp [spart, PE.c, List.drop_append, List.take_append, I16.c_length, List.take_of_length_le]
theorem PE.set_P (x : PE) (u_who : I16) (u_pn : SV) : splice x.c 0 ((u_who.c ++ [u_pn])) = PE.c { x with who := u_who, pn := u_pn } := by simp [splice, PE.c, List.drop_append, List.take_append, I16.c_length, List.drop_of_length_le]
theorem PE.part (x : PE) : spart true x.c 0 19 = .agg x.c := by simp [spart, List.take_of_length_le, PE.c_length]
theorem PE.set_all (x y : PE) : splice x.c 0 y.c = y.c := splice_all _ _ (by rw [PE.c_length, PE.c_length])
theorem PE.one (x : PE) : x.c.all SV.one = (x.pn.one && x.toA.one && x.is.one) := by simp [PE.c, List.all_append, I16.one, Bool.and_assoc]
theorem PE.flat (x : PE) : SV.flatL x.c = (x.pn.flat && x.toA.flat && x.is.flat) := by simp [PE.c, flatL_cons, flatL_app, I16.flat, flatL_nil, Bool.and_assoc]
theorem PE.ent {fz : Nat → Option SB} {ρ : Nat → Nat} (who : I16) (pn : SV) (toA : SV) (is : SV) (pn' : SV) (toA' : SV) (is' : SV) : EntL fz ρ (PE.c ⟨who, pn, toA, is⟩) (PE.c ⟨who, pn', toA', is'⟩) = (Ent fz ρ pn pn' ∧ Ent fz ρ toA toA' ∧ Ent fz ρ is is') := by
  simp only [PE.c, EntL_pre _ _ _ (I16.flat _), EntL_cons, EntL_nil, and_true]
structure AK where
  a : I16
  b : I16
  op : SV
  who : I16
  pn : SV
  toA : SV
  tr : SV
def AK.c (x : AK) : List SV := (x.a.c ++ (x.b.c ++ (x.op :: (x.who.c ++ (x.pn :: (x.toA :: (x.tr :: [])))))))
theorem AK.c_length (x : AK) : x.c.length = 52 := by simp [AK.c, I16.c_length]
theorem AK.part_a (x : AK) : spart true x.c 0 16 = .agg x.a.c := by simp [spart, AK.c, List.drop_append, I16.c_length]
theorem AK.set_a (x : AK) (v : I16) : splice x.c 0 v.c = AK.c { x with a := v } := by simp [splice, AK.c, List.take_append, I16.c_length]
theorem AK.part_b (x : AK) : spart true x.c 16 16 = .agg x.b.c := by simp [spart, AK.c, I16.c_length]
theorem AK.set_b (x : AK) (v : I16) : splice x.c 16 v.c = AK.c { x with b := v } := by simp [splice, AK.c, List.drop_append, I16.c_length, List.drop_of_length_le]
theorem AK.at_op (x : AK) : cellAt x.c 32 = x.op := cellAt_get _ _ _ (by simp [AK.c, I16.c_length])
theorem AK.set_op (x : AK) (v : SV) : splice x.c 32 [v] = AK.c { x with op := v } := by simp [splice, AK.c, List.drop_append, List.take_append, I16.c_length, List.take_of_length_le, List.drop_of_length_le]
theorem AK.set_who (x : AK) (v : I16) : splice x.c 33 v.c = AK.c { x with who := v } := by simp [splice, AK.c, List.drop_append, List.take_append, I16.c_length, List.take_of_length_le, List.drop_of_length_le]
theorem AK.at_pn (x : AK) : cellAt x.c 49 = x.pn := cellAt_get _ _ _ (by simp [AK.c, I16.c_length])
theorem AK.set_pn (x : AK) (v : SV) : splice x.c 49 [v] = AK.c { x with pn := v } := by simp [splice, AK.c, List.drop_append, List.take_append, I16.c_length, List.take_of_length_le, List.drop_of_length_le]
theorem AK.at_toA (x : AK) : cellAt x.c 50 = x.toA := cellAt_get _ _ _ (by simp [AK.c, I16.c_length])
theorem AK.set_toA (x : AK) (v : SV) : splice x.c 50 [v] = AK.c { x with toA := v } := by simp [splice, AK.c, List.drop_append, List.take_append, I16.c_length, List.take_of_length_le, List.drop_of_length_le]
theorem AK.at_tr (x : AK) : cellAt x.c 51 = x.tr := cellAt_get _ _ _ (by simp [AK.c, I16.c_length])
theorem AK.set_tr (x : AK) (v : SV) : splice x.c 51 [v] = AK.c { x with tr := v } := by simp [splice, AK.c, List.take_append, I16.c_length, List.take_of_length_le, List.drop_of_length_le]
theorem AK.part_P (x : AK) : spart true x.c 33 17 = .agg ((x.who.c ++ [x.pn])) := by simp [spart, AK.c, List.drop_append, List.take_append, I16.c_length, List.take_of_length_le, List.drop_of_length_le]
theorem AK.set_P (x : AK) (u_who : I16) (u_pn : SV) : splice x.c 33 ((u_who.c ++ [u_pn])) = AK.c { x with who := u_who, pn := u_pn } := by simp [splice, AK.c, List.drop_append, List.take_append, I16.c_length, List.take_of_length_le, List.drop_of_length_le]
theorem AK.part (x : AK) : spart true x.c 0 52 = .agg x.c := by simp [spart, List.take_of_length_le, AK.c_length]
theorem AK.set_all (x y : AK) : splice x.c 0 y.c = y.c := splice_all _ _ (by rw [AK.c_length, AK.c_length])
theorem AK.one (x : AK) : x.c.all SV.one = (x.op.one && x.pn.one && x.toA.one && x.tr.one) := by simp [AK.c, List.all_append, I16.one, Bool.and_assoc]
theorem AK.flat (x : AK) : SV.flatL x.c = (x.op.flat && x.pn.flat && x.toA.flat && x.tr.flat) := by simp [AK.c, flatL_cons, flatL_app, I16.flat, flatL_nil, Bool.and_assoc]
theorem AK.ent {fz : Nat → Option SB} {ρ : Nat → Nat} (a : I16) (b : I16) (op : SV) (who : I16) (pn : SV) (toA : SV) (tr : SV) (op' : SV) (pn' : SV) (toA' : SV) (tr' : SV) : EntL fz ρ (AK.c ⟨a, b, op, who, pn, toA, tr⟩) (AK.c ⟨a, b, op', who, pn', toA', tr'⟩) = (Ent fz ρ op op' ∧ Ent fz ρ pn pn' ∧ Ent fz ρ toA toA' ∧ Ent fz ρ tr tr') := by
  simp only [AK.c, EntL_pre _ _ _ (I16.flat _), EntL_cons, EntL_nil, and_true]
structure AD where
  a : I16
  n : SV
def AD.c (x : AD) : List SV := (x.a.c ++ (x.n :: []))
theorem AD.c_length (x : AD) : x.c.length = 17 := by simp [AD.c, I16.c_length]
theorem AD.part_a (x : AD) : spart true x.c 0 16 = .agg x.a.c := by simp [spart, AD.c, List.drop_append, I16.c_length]
theorem AD.set_a (x : AD) (v : I16) : splice x.c 0 v.c = AD.c { x with a := v } := by simp [splice, AD.c, List.take_append, I16.c_length]
theorem AD.at_n (x : AD) : cellAt x.c 16 = x.n := cellAt_get _ _ _ (by simp [AD.c, I16.c_length])
theorem AD.set_n (x : AD) (v : SV) : splice x.c 16 [v] = AD.c { x with n := v } := by simp [splice, AD.c, I16.c_length, List.drop_of_length_le]
theorem AD.part (x : AD) : spart true x.c 0 17 = .agg x.c := by simp [spart, List.take_of_length_le, AD.c_length]
theorem AD.set_all (x y : AD) : splice x.c 0 y.c = y.c := splice_all _ _ (by rw [AD.c_length, AD.c_length])
theorem AD.one (x : AD) : x.c.all SV.one = (x.n.one) := by simp [AD.c, List.all_append, I16.one]
theorem AD.flat (x : AD) : SV.flatL x.c = (x.n.flat) := by simp [AD.c, flatL_cons, flatL_app, I16.flat, flatL_nil]
theorem AD.ent {fz : Nat → Option SB} {ρ : Nat → Nat} (a : I16) (n : SV) (n' : SV) : EntL fz ρ (AD.c ⟨a, n⟩) (AD.c ⟨a, n'⟩) = (Ent fz ρ n n') := by
  simp only [AD.c, EntL_pre _ _ _ (I16.flat _), EntL_cons, EntL_nil, and_true]
structure PK where
  a : I16
  b : I16
  n : SV
  op : SV
  ttl : SV
  key : I16
  vn : SV
  vwho : I16
  val : SV
  tx : SV
def PK.c (x : PK) : List SV := (x.a.c ++ (x.b.c ++ (x.n :: (x.op :: (x.ttl :: (x.key.c ++ (x.vn :: (x.vwho.c ++ (x.val :: (x.tx :: []))))))))))
theorem PK.c_length (x : PK) : x.c.length = 70 := by simp [PK.c, I16.c_length]
theorem PK.part_a (x : PK) : spart true x.c 0 16 = .agg x.a.c := by simp [spart, PK.c, List.drop_append, I16.c_length]
theorem PK.set_a (x : PK) (v : I16) : splice x.c 0 v.c = PK.c { x with a := v } := by simp [splice, PK.c, List.take_append, I16.c_length]
theorem PK.part_b (x : PK) : spart true x.c 16 16 = .agg x.b.c := by simp [spart, PK.c, I16.c_length]
theorem PK.set_b (x : PK) (v : I16) : splice x.c 16 v.c = PK.c { x with b := v } := by simp [splice, PK.c, List.drop_append, I16.c_length, List.drop_of_length_le]
theorem PK.at_n (x : PK) : cellAt x.c 32 = x.n := cellAt_get _ _ _ (by simp [PK.c, I16.c_length])
theorem PK.set_n (x : PK) (v : SV) : splice x.c 32 [v] = PK.c { x with n := v } := by simp [splice, PK.c, List.drop_append, List.take_append, I16.c_length, List.take_of_length_le, List.drop_of_length_le]
theorem PK.at_op (x : PK) : cellAt x.c 33 = x.op := cellAt_get _ _ _ (by simp [PK.c, I16.c_length])
theorem PK.set_op (x : PK) (v : SV) : splice x.c 33 [v] = PK.c { x with op := v } := by simp [splice, PK.c, List.drop_append, List.take_append, I16.c_length, List.take_of_length_le, List.drop_of_length_le]
theorem PK.at_ttl (x : PK) : cellAt x.c 34 = x.ttl := cellAt_get _ _ _ (by simp [PK.c, I16.c_length])
theorem PK.set_ttl (x : PK) (v : SV) : splice x.c 34 [v] = PK.c { x with ttl := v } := by simp [splice, PK.c, List.drop_append, List.take_append, I16.c_length, List.take_of_length_le, List.drop_of_length_le]
theorem PK.part_key (x : PK) : spart true x.c 35 16 = .agg x.key.c := by simp [spart, PK.c, List.drop_append, I16.c_length, List.drop_of_length_le]
theorem PK.set_key (x : PK) (v : I16) : splice x.c 35 v.c = PK.c { x with key := v } := by simp [splice, PK.c, List.drop_append, List.take_append, I16.c_length, List.take_of_length_le, List.drop_of_length_le]
theorem PK.set_vn (x : PK) (v : SV) : splice x.c 51 [v] = PK.c { x with vn := v } := by simp [splice, PK.c, List.drop_append, List.take_append, I16.c_length, List.take_of_length_le, List.drop_of_length_le]
theorem PK.set_vwho (x : PK) (v : I16) : splice x.c 52 v.c = PK.c { x with vwho := v } := by simp [splice, PK.c, List.drop_append, List.take_append, I16.c_length, List.take_of_length_le, List.drop_of_length_le]
theorem PK.at_val (x : PK) : cellAt x.c 68 = x.val := cellAt_get _ _ _ (by simp [PK.c, I16.c_length])
theorem PK.set_val (x : PK) (v : SV) : splice x.c 68 [v] = PK.c { x with val := v } := by simp [splice, PK.c, List.drop_append, List.take_append, I16.c_length, List.take_of_length_le, List.drop_of_length_le]
theorem PK.at_tx (x : PK) : cellAt x.c 69 = x.tx := cellAt_get _ _ _ (by simp [PK.c, I16.c_length])
theorem PK.set_tx (x : PK) (v : SV) : splice x.c 69 [v] = PK.c { x with tx := v } := by simp [splice, PK.c, List.take_append, I16.c_length, List.take_of_length_le, List.drop_of_length_le]
theorem PK.part_item (x : PK) : spart true x.c 35 34 = .agg ((x.key.c ++ (x.vn :: (x.vwho.c ++ [x.val])))) := by simp [spart, PK.c, List.drop_append, List.take_append, I16.c_length, List.take_of_length_le, List.drop_of_length_le]
theorem PK.set_item (x : PK) (u_key : I16) (u_vn : SV) (u_vwho : I16) (u_val : SV) : splice x.c 35 ((u_key.c ++ (u_vn :: (u_vwho.c ++ [u_val])))) = PK.c { x with key := u_key, vn := u_vn, vwho := u_vwho, val := u_val } := by simp [splice, PK.c, List.drop_append, List.take_append, I16.c_length, List.take_of_length_le, List.drop_of_length_le]
theorem PK.part (x : PK) : spart true x.c 0 70 = .agg x.c := by simp [spart, List.take_of_length_le, PK.c_length]
theorem PK.set_all (x y : PK) : splice x.c 0 y.c = y.c := splice_all _ _ (by rw [PK.c_length, PK.c_length])
theorem PK.one (x : PK) : x.c.all SV.one = (x.n.one && x.op.one && x.ttl.one && x.vn.one && x.val.one && x.tx.one) := by simp [PK.c, List.all_append, I16.one, Bool.and_assoc]
theorem PK.flat (x : PK) : SV.flatL x.c = (x.n.flat && x.op.flat && x.ttl.flat && x.vn.flat && x.val.flat && x.tx.flat) := by simp [PK.c, flatL_cons, flatL_app, I16.flat, flatL_nil, Bool.and_assoc]
theorem PK.ent {fz : Nat → Option SB} {ρ : Nat → Nat} (a : I16) (b : I16) (n : SV) (op : SV) (ttl : SV) (key : I16) (vn : SV) (vwho : I16) (val : SV) (tx : SV) (n' : SV) (op' : SV) (ttl' : SV) (vn' : SV) (val' : SV) (tx' : SV) : EntL fz ρ (PK.c ⟨a, b, n, op, ttl, key, vn, vwho, val, tx⟩) (PK.c ⟨a, b, n', op', ttl', key, vn', vwho, val', tx'⟩) = (Ent fz ρ n n' ∧ Ent fz ρ op op' ∧ Ent fz ρ ttl ttl' ∧ Ent fz ρ vn vn' ∧ Ent fz ρ val val' ∧ Ent fz ρ tx tx') := by
  simp only [PK.c, EntL_pre _ _ _ (I16.flat _), EntL_cons, EntL_nil, and_true]
structure CP where
  who : I16
  pn : SV
  toA : SV
  key : I16
  vn : SV
  vwho : I16
  val : SV
def CP.c (x : CP) : List SV := (x.who.c ++ (x.pn :: (x.toA :: (x.key.c ++ (x.vn :: (x.vwho.c ++ (x.val :: [])))))))
theorem CP.c_length (x : CP) : x.c.length = 52 := by simp [CP.c, I16.c_length]
theorem CP.set_who (x : CP) (v : I16) : splice x.c 0 v.c = CP.c { x with who := v } := by simp [splice, CP.c, List.take_append, I16.c_length]
theorem CP.at_pn (x : CP) : cellAt x.c 16 = x.pn := cellAt_get _ _ _ (by simp [CP.c, I16.c_length])
theorem CP.set_pn (x : CP) (v : SV) : splice x.c 16 [v] = CP.c { x with pn := v } := by simp [splice, CP.c, List.drop_append, I16.c_length, List.drop_of_length_le]
theorem CP.at_toA (x : CP) : cellAt x.c 17 = x.toA := cellAt_get _ _ _ (by simp [CP.c, I16.c_length])
theorem CP.set_toA (x : CP) (v : SV) : splice x.c 17 [v] = CP.c { x with toA := v } := by simp [splice, CP.c, List.drop_append, List.take_append, I16.c_length, List.take_of_length_le, List.drop_of_length_le]
theorem CP.part_key (x : CP) : spart true x.c 18 16 = .agg x.key.c := by simp [spart, CP.c, List.drop_append, I16.c_length, List.drop_of_length_le]
theorem CP.set_key (x : CP) (v : I16) : splice x.c 18 v.c = CP.c { x with key := v } := by simp [splice, CP.c, List.drop_append, List.take_append, I16.c_length, List.take_of_length_le, List.drop_of_length_le]
theorem CP.set_vn (x : CP) (v : SV) : splice x.c 34 [v] = CP.c { x with vn := v } := by simp [splice, CP.c, List.drop_append, List.take_append, I16.c_length, List.take_of_length_le, List.drop_of_length_le]
theorem CP.set_vwho (x : CP) (v : I16) : splice x.c 35 v.c = CP.c { x with vwho := v } := by simp [splice, CP.c, List.drop_append, List.take_append, I16.c_length, List.take_of_length_le, List.drop_of_length_le]
theorem CP.at_val (x : CP) : cellAt x.c 51 = x.val := cellAt_get _ _ _ (by simp [CP.c, I16.c_length])
theorem CP.set_val (x : CP) (v : SV) : splice x.c 51 [v] = CP.c { x with val := v } := by simp [splice, CP.c, List.take_append, I16.c_length, List.take_of_length_le, List.drop_of_length_le]
theorem CP.part_P (x : CP) : spart true x.c 0 17 = .agg ((x.who.c ++ [x.pn])) := by simp [spart, CP.c, List.drop_append, List.take_append, I16.c_length, List.take_of_length_le]
theorem CP.set_P (x : CP) (u_who : I16) (u_pn : SV) : splice x.c 0 ((u_who.c ++ [u_pn])) = CP.c { x with who := u_who, pn := u_pn } := by simp [splice, CP.c, List.drop_append, List.take_append, I16.c_length, List.drop_of_length_le]
theorem CP.part_item (x : CP) : spart true x.c 18 34 = .agg ((x.key.c ++ (x.vn :: (x.vwho.c ++ [x.val])))) := by simp [spart, CP.c, List.drop_append, I16.c_length, List.take_of_length_le, List.drop_of_length_le]
theorem CP.set_item (x : CP) (u_key : I16) (u_vn : SV) (u_vwho : I16) (u_val : SV) : splice x.c 18 ((u_key.c ++ (u_vn :: (u_vwho.c ++ [u_val])))) = CP.c { x with key := u_key, vn := u_vn, vwho := u_vwho, val := u_val } := by simp [splice, CP.c, List.take_append, I16.c_length, List.take_of_length_le, List.drop_of_length_le]
theorem CP.part (x : CP) : spart true x.c 0 52 = .agg x.c := by simp [spart, List.take_of_length_le, CP.c_length]
theorem CP.set_all (x y : CP) : splice x.c 0 y.c = y.c := splice_all _ _ (by rw [CP.c_length, CP.c_length])
theorem CP.one (x : CP) : x.c.all SV.one = (x.pn.one && x.toA.one && x.vn.one && x.val.one) := by simp [CP.c, List.all_append, I16.one, Bool.and_assoc]
theorem CP.flat (x : CP) : SV.flatL x.c = (x.pn.flat && x.toA.flat && x.vn.flat && x.val.flat) := by simp [CP.c, flatL_cons, flatL_app, I16.flat, flatL_nil, Bool.and_assoc]
theorem CP.ent {fz : Nat → Option SB} {ρ : Nat → Nat} (who : I16) (pn : SV) (toA : SV) (key : I16) (vn : SV) (vwho : I16) (val : SV) (pn' : SV) (toA' : SV) (vn' : SV) (val' : SV) : EntL fz ρ (CP.c ⟨who, pn, toA, key, vn, vwho, val⟩) (CP.c ⟨who, pn', toA', key, vn', vwho, val'⟩) = (Ent fz ρ pn pn' ∧ Ent fz ρ toA toA' ∧ Ent fz ρ vn vn' ∧ Ent fz ρ val val') := by
  simp only [CP.c, EntL_pre _ _ _ (I16.flat _), EntL_cons, EntL_nil, and_true]
structure GT where
  who : I16
  pn : SV
  toA : SV
  key : I16
  vn : SV
  vwho : I16
def GT.c (x : GT) : List SV := (x.who.c ++ (x.pn :: (x.toA :: (x.key.c ++ (x.vn :: (x.vwho.c ++ []))))))
theorem GT.c_length (x : GT) : x.c.length = 51 := by simp [GT.c, I16.c_length]
theorem GT.set_who (x : GT) (v : I16) : splice x.c 0 v.c = GT.c { x with who := v } := by simp [splice, GT.c, List.take_append, I16.c_length]
theorem GT.at_pn (x : GT) : cellAt x.c 16 = x.pn := cellAt_get _ _ _ (by simp [GT.c, I16.c_length])
theorem GT.set_pn (x : GT) (v : SV) : splice x.c 16 [v] = GT.c { x with pn := v } := by simp [splice, GT.c, List.drop_append, I16.c_length, List.drop_of_length_le]
theorem GT.at_toA (x : GT) : cellAt x.c 17 = x.toA := cellAt_get _ _ _ (by simp [GT.c, I16.c_length])
theorem GT.set_toA (x : GT) (v : SV) : splice x.c 17 [v] = GT.c { x with toA := v } := by simp [splice, GT.c, List.drop_append, List.take_append, I16.c_length, List.take_of_length_le, List.drop_of_length_le]
theorem GT.part_key (x : GT) : spart true x.c 18 16 = .agg x.key.c := by simp [spart, GT.c, List.drop_append, I16.c_length, List.drop_of_length_le]
theorem GT.set_key (x : GT) (v : I16) : splice x.c 18 v.c = GT.c { x with key := v } := by simp [splice, GT.c, List.drop_append, List.take_append, I16.c_length, List.take_of_length_le, List.drop_of_length_le]
theorem GT.set_vn (x : GT) (v : SV) : splice x.c 34 [v] = GT.c { x with vn := v } := by simp [splice, GT.c, List.drop_append, List.take_append, I16.c_length, List.take_of_length_le, List.drop_of_length_le]
theorem GT.set_vwho (x : GT) (v : I16) : splice x.c 35 v.c = GT.c { x with vwho := v } := by simp [splice, GT.c, List.take_append, I16.c_length, List.take_of_length_le, List.drop_of_length_le]
theorem GT.part_P (x : GT) : spart true x.c 0 17 = .agg ((x.who.c ++ [x.pn])) := by simp [spart, GT.c, List.drop_append, List.take_append, I16.c_length, List.take_of_length_le]
theorem GT.set_P (x : GT) (u_who : I16) (u_pn : SV) : splice x.c 0 ((u_who.c ++ [u_pn])) = GT.c { x with who := u_who, pn := u_pn } := by simp [splice, GT.c, List.drop_append, List.take_append, I16.c_length, List.drop_of_length_le]
theorem GT.part_ver (x : GT) : spart true x.c 34 17 = .agg ((x.vn :: x.vwho.c)) := by simp [spart, GT.c, List.drop_append, I16.c_length, List.take_of_length_le, List.drop_of_length_le]
theorem GT.set_ver (x : GT) (u_vn : SV) (u_vwho : I16) : splice x.c 34 ((u_vn :: u_vwho.c)) = GT.c { x with vn := u_vn, vwho := u_vwho } := by simp [splice, GT.c, List.take_append, I16.c_length, List.take_of_length_le, List.drop_of_length_le]
theorem GT.part (x : GT) : spart true x.c 0 51 = .agg x.c := by simp [spart, List.take_of_length_le, GT.c_length]
theorem GT.set_all (x y : GT) : splice x.c 0 y.c = y.c := splice_all _ _ (by rw [GT.c_length, GT.c_length])
theorem GT.one (x : GT) : x.c.all SV.one = (x.pn.one && x.toA.one && x.vn.one) := by simp [GT.c, List.all_append, I16.one, Bool.and_assoc]
theorem GT.flat (x : GT) : SV.flatL x.c = (x.pn.flat && x.toA.flat && x.vn.flat) := by simp [GT.c, flatL_cons, flatL_app, I16.flat, Bool.and_assoc]
theorem GT.ent {fz : Nat → Option SB} {ρ : Nat → Nat} (who : I16) (pn : SV) (toA : SV) (key : I16) (vn : SV) (vwho : I16) (pn' : SV) (toA' : SV) (vn' : SV) : EntL fz ρ (GT.c ⟨who, pn, toA, key, vn, vwho⟩) (GT.c ⟨who, pn', toA', key, vn', vwho⟩) = (Ent fz ρ pn pn' ∧ Ent fz ρ toA toA' ∧ Ent fz ρ vn vn') := by
  simp only [GT.c, EntL_pre _ _ _ (I16.flat _), EntL_cons, EntL_nil, and_true]
theorem PK.set_it (x : PK) (k : I16) (u : SV) (v : I16) (t : SV) : splice x.c 35 (IC.c ⟨k, u, v, t⟩) = PK.c { x with key := k, vn := u, vwho := v, val := t } := PK.set_item x k u v t
theorem PK.part_it (x : PK) : spart true x.c 35 34 = .agg (IC.c ⟨x.key, x.vn, x.vwho, x.val⟩) := PK.part_item x
theorem CP.set_it (x : CP) (k : I16) (u : SV) (v : I16) (t : SV) : splice x.c 18 (IC.c ⟨k, u, v, t⟩) = CP.c { x with key := k, vn := u, vwho := v, val := t } := CP.set_item x k u v t
theorem CP.part_it (x : CP) : spart true x.c 18 34 = .agg (IC.c ⟨x.key, x.vn, x.vwho, x.val⟩) := CP.part_item x
end Go.SL
namespace Go.Proofs
open Go Go.SL
set_option maxRecDepth 100000
def zSU : SU := ⟨I16.zero, .v (.int .i64 0), I16.zero, I16.zero, .v (.slice none 0 0)⟩
theorem sz226 : sZero Try.prog 226 = some (.agg zSU.c) := by kernel_rfl
theorem miss226 (t : TypeId) (v : SV) (h : t ≠ 226) : sAssert Try.prog (.ifc t v) 226 true = some ⟨.tup [.agg zSU.c, .v (.bool false)], {}, True⟩ := sassert_miss t 226 v _ _ tab.u226 (fun _ h => nomatch h) h sz226
def zDR : DR := ⟨I16.zero, .v (.int .i64 0)⟩
theorem bl230 (parts : List (Nat × SV)) : sBuild Try.prog 230 parts = sagg (sfill (fieldPlaceOf Try.prog 230) zDR.c parts) := by
  rw [sBuild_eq, tab.z230, tab.l230]; rfl
theorem al230 (N : Nat) : sAlloc Try.prog N 230 = some ⟨.ptr N 0 0, ⟨none, some (.row ⟨17, 1, true, 230, fun _ => zDR.c⟩)⟩, True⟩ := sAlloc_eq N 230 _ tab.z230 rfl
theorem hit230 (v : SV) : sAssert Try.prog (.ifc 230 v) 230 true = some ⟨.tup [v, .v (.bool true)], {}, True⟩ := sassert_hit 230 v _ tab.u230 (fun _ h => nomatch h)
theorem mk230 (x : SV) : sMakeIface Try.prog 230 x = some ⟨.ifc 230 x, {}, True⟩ := by unfold sMakeIface; rw [tab.u230]
def bodpc0 :=
  (And.intro (And.intro (And.intro @cells_agg @cells_bool) (And.intro @cells_int @cells_slc)) (And.intro (And.intro @fieldPlaceOf_eq @sagg_some) (And.intro @sfill1_some (And.intro @sfill_cons @sfill_nil))))
def bodpb0 :=
  (And.intro (And.intro bodpc0 @DR.set_P) (And.intro @bl230 @tab.f230x0))
theorem build230 (who : I16) (pn : Int) : sBuild Try.prog 230 [(0, .agg (who.c ++ [.v (.int .i64 pn)]))] = some ⟨.agg (DR.c ⟨who, .v (.int .i64 pn)⟩), {}, True⟩ := by
  simp (disch := simp [DR.c_length, I16.c_length, IC.c_length]) only [bodpb0, Option.map_some]
def zPT : PT := ⟨I16.zero, .v (.int .i64 0), .v (.bool false)⟩
theorem al232 (N : Nat) : sAlloc Try.prog N 232 = some ⟨.ptr N 0 0, ⟨none, some (.row ⟨18, 1, true, 232, fun _ => zPT.c⟩)⟩, True⟩ := sAlloc_eq N 232 _ tab.z232 rfl
theorem sz232 : sZero Try.prog 232 = some (.agg zPT.c) := by kernel_rfl
theorem miss232 (t : TypeId) (v : SV) (h : t ≠ 232) : sAssert Try.prog (.ifc t v) 232 true = some ⟨.tup [.agg zPT.c, .v (.bool false)], {}, True⟩ := sassert_miss t 232 v _ _ tab.u232 (fun _ h => nomatch h) h sz232
def zPE : PE := ⟨I16.zero, .v (.int .i64 0), .v (.bool false), .v (.slice none 0 0)⟩
def zAK : AK := ⟨I16.zero, I16.zero, .v (.int .i64 0), I16.zero, .v (.int .i64 0), .v (.bool false), .v (.slice none 0 0)⟩
def zAD : AD := ⟨I16.zero, .v (.int .i64 0)⟩
def zPK : PK := ⟨I16.zero, I16.zero, .v (.int .i64 0), .v (.int .i64 0), .v (.int .i64 0), I16.zero, .v (.int .i64 0), I16.zero, .v (.slice none 0 0), .v (.slice none 0 0)⟩
def zCP : CP := ⟨I16.zero, .v (.int .i64 0), .v (.bool false), I16.zero, .v (.int .i64 0), I16.zero, .v (.slice none 0 0)⟩
def zGT : GT := ⟨I16.zero, .v (.int .i64 0), .v (.bool false), I16.zero, .v (.int .i64 0), I16.zero⟩
end Go.Proofs
namespace Go.Proofs
open Go Go.SL
set_option maxRecDepth 100000
theorem elN3 : ElTy Try.prog 3 1 8 := ⟨tab.s3, tab.b3, ⟨_, tab.z3, rfl⟩, by decide, by decide⟩
theorem elN23 : ElTy Try.prog 23 16 16 := ⟨tab.s23, tab.b23, ⟨_, tab.z23, rfl⟩, by decide, by decide⟩
theorem al149 (N : Nat) : sAlloc Try.prog N 149 = some ⟨.ptr N 0 0, ⟨none, some (.row ⟨34, 1, true, 149, fun _ => IC.c ⟨I16.zero, .v (.int .i64 0), I16.zero, .v (.slice none 0 0)⟩⟩)⟩, True⟩ := sAlloc_eq N 149 _ tab.z149 rfl
def bodpc1 :=
  (And.intro (And.intro (And.intro (And.intro @AD.flat (And.intro @AD.one @AK.one)) (And.intro (And.intro @CP.flat @CP.one) (And.intro @DR.flat @DR.one))) (And.intro (And.intro (And.intro @FC.flat_eq @FC.one_eq) (And.intro @GT.flat @GT.one)) (And.intro (And.intro @H1.one @I16.flat) (And.intro @I16.one @IC.flat)))) (And.intro (And.intro (And.intro (And.intro @IC.one @PE.one) (And.intro @PK.one @PT.flat)) (And.intro (And.intro @PT.one @SU.one) (And.intro @bdset_a @idrs_flat))) (And.intro (And.intro (And.intro @idrs_len @lrows_flat) (And.intro @lrows_length @zD.eq_1)) (And.intro (And.intro @zE.eq_1 @zF.eq_1) (And.intro @zH.eq_1 @zK.eq_1)))))
def bodpb1 :=
  (And.intro (And.intro bodpc1 @FC.c_length) (And.intro @H1.c_length (And.intro @I16.c_length @IC.c_length)))
def bodpc2 :=
  (And.intro (And.intro @AK.ent (And.intro @IC.ent @PE.ent)) (And.intro (And.intro @PK.ent @SU.ent) (And.intro @build230 @mk230)))
def bodpc3 :=
  (And.intro (And.intro (And.intro (And.intro (And.intro (And.intro @EC.at_op @EC.ent) (And.intro @FC.part (And.intro @FC.set_all @H1.part_from))) (And.intro (And.intro @H1.part_to @Int.cast_ofNat_Int) (And.intro @List.replicate_succ.{0} (And.intro @List.replicate_zero.{0} @SKren_row)))) (And.intro (And.intro (And.intro @after_mk @al151) (And.intro @beq_self_eq_true.{0} (And.intro @brun_a @build151z))) (And.intro (And.intro @cellAt_succ @cellAt_zero) (And.intro @cond_false.{1} (And.intro @cond_true.{1} @mergeL_done))))) (And.intro (And.intro (And.intro (And.intro @mergeL_row @renL_cons) (And.intro @renL_flat (And.intro @renL_nil @ren_tup))) (And.intro (And.intro @sop_assert @sp02) (And.intro @splice_0 (And.intro @splice_c @splice_s)))) (And.intro (And.intro (And.intro @tab.a135 @tab.a144) (And.intro @tab.a145 (And.intro @tab.a147 @tab.a149))) (And.intro (And.intro @tab.a151 @tab.a2) (And.intro @tab.a23 (And.intro @tab.a3 @tab.a35)))))) (And.intro (And.intro (And.intro (And.intro (And.intro @tab.a4 @tab.a79) (And.intro @tab.f149x0 (And.intro @tab.f149x1 @tab.f149x2))) (And.intro (And.intro @tab.f151x10 @tab.f151x11) (And.intro @tab.f151x12 (And.intro @tab.f151x13 @tab.f151x2)))) (And.intro (And.intro (And.intro @tab.f151x3 @tab.f151x4) (And.intro @tab.f151x5 (And.intro @tab.f151x6 @tab.f151x7))) (And.intro (And.intro @tab.f151x8 @tab.f151x9) (And.intro @tab.s135 (And.intro @tab.s144 @tab.s145))))) (And.intro (And.intro (And.intro (And.intro @tab.s147 @tab.s149) (And.intro @tab.s151 (And.intro @tab.s2 @tab.s23))) (And.intro (And.intro @tab.s230 @tab.s232) (And.intro @tab.s3 (And.intro @tab.s35 @tab.s4)))) (And.intro (And.intro (And.intro @tab.s79 @tab.u145) (And.intro @tab.u210 (And.intro @tab.u214 @tab.u218))) (And.intro (And.intro @tab.u226 @tab.u230) (And.intro @tab.u232 (And.intro @tab.u35 @tab.u79)))))))
def bodpc4 :=
  (And.intro (And.intro (And.intro (And.intro @FC.at_is @FC.at_kind) (And.intro @FC.at_n @FC.at_op)) (And.intro (And.intro @FC.at_toA @FC.at_tr) (And.intro @FC.at_ttl @FC.at_tx))) (And.intro (And.intro (And.intro @FC.part_P @FC.part_a) (And.intro @FC.part_b @FC.part_from)) (And.intro (And.intro @FC.part_it @FC.part_key) (And.intro @FC.part_to @FC.part_ver))))
def bodpb2 :=
  (And.intro (And.intro (And.intro bodpc2 bodpc3) (And.intro bodpc4 (And.intro @FC.c_length @H1.c_length))) (And.intro (And.intro @I16.c_length (And.intro @IC.at_val @IC.c_length)) (And.intro @tab.f151x0 (And.intro @tab.f151x1 @tab.f230x0))))
def bodpb3 :=
  (And.intro (And.intro (And.intro bodpc2 (And.intro bodpc3 bodpc4)) (And.intro (And.intro @FC.c_length @H1.c_length) (And.intro @I16.c_length @bwk_a))) (And.intro (And.intro @eq_self.{1} (And.intro @forall_const.{1} @implies_true.{0})) (And.intro (And.intro @implies_true.{1} @tab.f151x0) (And.intro @tab.f151x1 @tab.f230x0))))
theorem of_k5 (F : Frm) (hk : F.kind = 5) : Pure Try.prog 119 [.agg F.fc.c] (.tup [.ifc 230 (.agg (DR.c ⟨F.who, .v (.int .i64 F.pn)⟩)), .v (.bool true)]) := by
  refine SCall.mk (fn := Try.f119) (by kernel_rfl) rfl (Nat.le_of_ble_eq_true (by kernel_rfl)) ?_
  refine Sem.go (k := 1000) ?_
  simp -dsimp (decide := true) (disch := first | omega | simp (decide := true) only [bodpb1]) only [bodpb2, ↓brun_b, envOf, Nat.reduceBEq, Frm.fc, hk]
  refine SQ.answer (rs := [.tmp 2, .tmp 3]) rfl rfl ?_
  simp -dsimp (decide := true) (disch := first | omega | simp (decide := true) only [bodpb1]) only [bodpb3, ↓brun_b, Nat.reduceBEq, rho]
end Go.Proofs
namespace Go.SL
open Go
theorem FC.set_it (x : FC) (k : I16) (u : SV) (v : I16) (t : SV) : splice x.c 58 (IC.c ⟨k, u, v, t⟩) = FC.c { x with key := k, vn := u, vwho := v, val := t } := FC.set_item x k u v t
end Go.SL
namespace Go.Proofs
open Go Go.SL
set_option maxRecDepth 100000
def bodpb4 :=
  (And.intro (And.intro bodpc0 (And.intro @FC.set_P @FC.set_kind)) (And.intro @bl151 (And.intro @tab.f151x0 @tab.f151x1)))
theorem b151k5 (who : I16) (pn : Int) : sBuild Try.prog 151 [(0, .v (.int .i64 5)), (1, .agg (who.c ++ [.v (.int .i64 pn)]))] = some ⟨.agg (FC.c { zF with kind := .v (.int .i64 5), who := who, pn := .v (.int .i64 pn) }), {}, True⟩ := by
  simp (disch := simp [FC.c_length, I16.c_length, IC.c_length]) only [bodpb4, Option.map_some]
def bodpc5 :=
  (And.intro (And.intro (And.intro @AD.c_length @AK.c_length) (And.intro @CP.c_length @DR.c_length)) (And.intro (And.intro @GT.c_length @PE.c_length) (And.intro @PK.c_length (And.intro @PT.c_length @SU.c_length))))
def bodpb5 :=
  (And.intro (And.intro bodpc5 (And.intro bodpc1 @FC.c_length)) (And.intro @H1.c_length (And.intro @I16.c_length @IC.c_length)))
def bodpc6 :=
  (And.intro (And.intro (And.intro (And.intro (And.intro @AD.at_n @AD.part_a) (And.intro @AD.set_all (And.intro @AK.at_op @AK.at_toA))) (And.intro (And.intro @AK.at_tr (And.intro @AK.part_P @AK.part_a)) (And.intro @AK.part_b (And.intro @AK.set_all @CP.at_toA)))) (And.intro (And.intro (And.intro @CP.part_P (And.intro @CP.part_it @CP.set_all)) (And.intro @DR.part_P (And.intro @DR.set_all @FC.ent))) (And.intro (And.intro @GT.at_toA (And.intro @GT.part_P @GT.part_key)) (And.intro @GT.part_ver (And.intro @GT.set_all @PE.at_is))))) (And.intro (And.intro (And.intro (And.intro @PE.at_toA @PE.part_P) (And.intro @PE.set_all (And.intro @PK.at_n @PK.at_op))) (And.intro (And.intro @PK.at_ttl (And.intro @PK.at_tx @PK.part_a)) (And.intro @PK.part_b (And.intro @PK.part_it @PK.set_all)))) (And.intro (And.intro (And.intro @PT.at_toA (And.intro @PT.part_P @PT.set_all)) (And.intro @SU.at_tr (And.intro @SU.part_P @SU.part_a))) (And.intro (And.intro @SU.part_b (And.intro @SU.set_all @al149)) (And.intro @al230 (And.intro @al232 @hit230))))))
def bodpb6 :=
  (And.intro (And.intro (And.intro bodpc6 (And.intro bodpc5 bodpc3)) (And.intro @FC.c_length (And.intro @H1.c_length @I16.c_length))) (And.intro (And.intro @IC.at_val (And.intro @IC.c_length @b151k5)) (And.intro @tab.f151x0 (And.intro @tab.f151x1 @tab.f230x0))))
def bodpb7 :=
  (And.intro (And.intro (And.intro bodpc6 (And.intro bodpc5 bodpc3)) (And.intro (And.intro bodpc4 @FC.c_length) (And.intro @H1.c_length @I16.c_length))) (And.intro (And.intro (And.intro @bwk_a @eq_self.{1}) (And.intro @forall_const.{1} @implies_true.{0})) (And.intro (And.intro @implies_true.{1} @tab.f151x0) (And.intro @tab.f151x1 @tab.f230x0))))
theorem plain_k5 (who : I16) (pn : Int) : Pure Try.prog 123 [.ifc 230 (.agg (DR.c ⟨who, .v (.int .i64 pn)⟩))] (.agg (FC.c { zF with kind := .v (.int .i64 5), who := who, pn := .v (.int .i64 pn) })) := by
  refine SCall.mk (fn := Try.f123) (by kernel_rfl) rfl (Nat.le_of_ble_eq_true (by kernel_rfl)) ?_
  refine Sem.go (k := 1000) ?_
  simp -dsimp (decide := true) (disch := first | omega | simp (decide := true) only [bodpb5]) only [bodpb6, ↓brun_b, envOf, Nat.reduceAdd, Nat.reduceBEq, fun v => miss214 230 v (by decide), fun v => miss210 230 v (by decide), fun v => miss218 230 v (by decide), fun v => miss226 230 v (by decide)]
  refine SQ.answer (rs := [.cell 2 151]) rfl rfl ?_
  simp -dsimp (decide := true) (disch := first | omega | simp (decide := true) only [bodpb5]) only [bodpb7, ↓brun_b, Nat.reduceAdd, Nat.reduceBEq, rho]
end Go.Proofs
