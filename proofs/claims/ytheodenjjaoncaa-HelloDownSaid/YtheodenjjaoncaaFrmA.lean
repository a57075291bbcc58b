/- A frame's cells: each field read and written. Printed by fc.py. -/
import Derived.Test.YtheodenjjaoncaaRepD
set_option linter.unusedVariables false
set_option linter.unusedSimpArgs false
namespace Go.SL
open Go
/-- A frame's cells, field by field. -/
structure FC where
  kind : SV
  who : I16
  pn : SV
  toA : SV
  a : I16
  b : I16
  n : SV
  fi : SV
  fn : SV
  ti : SV
  tn : SV
  tr : SV
  is : SV
  key : I16
  vn : SV
  vwho : I16
  val : SV
  op : SV
  ttl : SV
  tx : SV
theorem flatL_app : ∀ (l m : List SV), SV.flatL (l ++ m) = (SV.flatL l && SV.flatL m)
  | [], m => by simp [flatL_nil]
  | x :: l, m => by simp [flatL_cons, flatL_app l m, Bool.and_assoc]
def FC.c (x : FC) : List SV := x.kind :: (x.who.c ++ (x.pn :: x.toA :: (x.a.c ++ (x.b.c ++ (x.n :: x.fi :: x.fn :: x.ti :: x.tn :: x.tr :: x.is :: (x.key.c ++ (x.vn :: (x.vwho.c ++ [x.val, x.op, x.ttl, x.tx]))))))))
theorem FC.c_length (x : FC) : x.c.length = 95 := by simp [FC.c, I16.c_length]
theorem FC.at_kind (x : FC) : cellAt x.c 0 = x.kind := cellAt_get _ _ _ (by simp [FC.c, List.getElem?_append, I16.c_length])
theorem FC.at_pn (x : FC) : cellAt x.c 17 = x.pn := cellAt_get _ _ _ (by simp [FC.c, List.getElem?_append, I16.c_length])
theorem FC.at_toA (x : FC) : cellAt x.c 18 = x.toA := cellAt_get _ _ _ (by simp [FC.c, List.getElem?_append, I16.c_length])
theorem FC.at_n (x : FC) : cellAt x.c 51 = x.n := cellAt_get _ _ _ (by simp [FC.c, List.getElem?_append, I16.c_length])
theorem FC.at_fi (x : FC) : cellAt x.c 52 = x.fi := cellAt_get _ _ _ (by simp [FC.c, List.getElem?_append, I16.c_length])
theorem FC.at_fn (x : FC) : cellAt x.c 53 = x.fn := cellAt_get _ _ _ (by simp [FC.c, List.getElem?_append, I16.c_length])
theorem FC.at_ti (x : FC) : cellAt x.c 54 = x.ti := cellAt_get _ _ _ (by simp [FC.c, List.getElem?_append, I16.c_length])
theorem FC.at_tn (x : FC) : cellAt x.c 55 = x.tn := cellAt_get _ _ _ (by simp [FC.c, List.getElem?_append, I16.c_length])
theorem FC.at_tr (x : FC) : cellAt x.c 56 = x.tr := cellAt_get _ _ _ (by simp [FC.c, List.getElem?_append, I16.c_length])
theorem FC.at_is (x : FC) : cellAt x.c 57 = x.is := cellAt_get _ _ _ (by simp [FC.c, List.getElem?_append, I16.c_length])
theorem FC.at_vn (x : FC) : cellAt x.c 74 = x.vn := cellAt_get _ _ _ (by simp [FC.c, List.getElem?_append, I16.c_length])
theorem FC.at_val (x : FC) : cellAt x.c 91 = x.val := cellAt_get _ _ _ (by simp [FC.c, List.getElem?_append, I16.c_length])
theorem FC.at_op (x : FC) : cellAt x.c 92 = x.op := cellAt_get _ _ _ (by simp [FC.c, List.getElem?_append, I16.c_length])
theorem FC.at_ttl (x : FC) : cellAt x.c 93 = x.ttl := cellAt_get _ _ _ (by simp [FC.c, List.getElem?_append, I16.c_length])
theorem FC.at_tx (x : FC) : cellAt x.c 94 = x.tx := cellAt_get _ _ _ (by simp [FC.c, List.getElem?_append, I16.c_length])
theorem FC.part_who (x : FC) : spart true x.c 1 16 = .agg x.who.c := by simp [spart, FC.c, List.drop_append, List.take_append, I16.c_length, List.take_of_length_le, List.drop_of_length_le]
theorem FC.part_a (x : FC) : spart true x.c 19 16 = .agg x.a.c := by simp [spart, FC.c, List.drop_append, List.take_append, I16.c_length, List.take_of_length_le, List.drop_of_length_le]
theorem FC.part_b (x : FC) : spart true x.c 35 16 = .agg x.b.c := by simp [spart, FC.c, List.drop_append, List.take_append, I16.c_length, List.take_of_length_le, List.drop_of_length_le]
theorem FC.part_key (x : FC) : spart true x.c 58 16 = .agg x.key.c := by simp [spart, FC.c, List.drop_append, List.take_append, I16.c_length, List.take_of_length_le, List.drop_of_length_le]
theorem FC.part_vwho (x : FC) : spart true x.c 75 16 = .agg x.vwho.c := by simp [spart, FC.c, List.drop_append, List.take_append, I16.c_length, List.take_of_length_le, List.drop_of_length_le]
theorem FC.part_P (x : FC) : spart true x.c 1 17 = .agg (x.who.c ++ [x.pn]) := by simp [spart, FC.c, List.drop_append, List.take_append, I16.c_length, List.take_of_length_le, List.drop_of_length_le]
theorem FC.part_from (x : FC) : spart true x.c 52 2 = .agg [x.fi, x.fn] := by simp [spart, FC.c, List.drop_append, List.take_append, I16.c_length, List.take_of_length_le, List.drop_of_length_le]
theorem FC.part_to (x : FC) : spart true x.c 54 2 = .agg [x.ti, x.tn] := by simp [spart, FC.c, List.drop_append, List.take_append, I16.c_length, List.take_of_length_le, List.drop_of_length_le]
theorem FC.part_ver (x : FC) : spart true x.c 74 17 = .agg (x.vn :: x.vwho.c) := by simp [spart, FC.c, List.drop_append, List.take_append, I16.c_length, List.take_of_length_le, List.drop_of_length_le]
theorem FC.part_item (x : FC) : spart true x.c 58 34 = .agg (x.key.c ++ (x.vn :: (x.vwho.c ++ [x.val]))) := by simp [spart, FC.c, List.drop_append, List.take_append, I16.c_length, List.take_of_length_le, List.drop_of_length_le]
theorem FC.part (x : FC) : spart true x.c 0 95 = .agg x.c := by simp [spart, List.take_of_length_le, FC.c_length]
theorem FC.set_kind (x : FC) (v : SV) : splice x.c 0 [v] = FC.c { x with kind := v } := by simp [splice, FC.c, List.drop_append, List.take_append, I16.c_length, List.take_of_length_le, List.drop_of_length_le]
theorem FC.set_pn (x : FC) (v : SV) : splice x.c 17 [v] = FC.c { x with pn := v } := by simp [splice, FC.c, List.drop_append, List.take_append, I16.c_length, List.take_of_length_le, List.drop_of_length_le]
theorem FC.set_toA (x : FC) (v : SV) : splice x.c 18 [v] = FC.c { x with toA := v } := by simp [splice, FC.c, List.drop_append, List.take_append, I16.c_length, List.take_of_length_le, List.drop_of_length_le]
theorem FC.set_n (x : FC) (v : SV) : splice x.c 51 [v] = FC.c { x with n := v } := by simp [splice, FC.c, List.drop_append, List.take_append, I16.c_length, List.take_of_length_le, List.drop_of_length_le]
theorem FC.set_fi (x : FC) (v : SV) : splice x.c 52 [v] = FC.c { x with fi := v } := by simp [splice, FC.c, List.drop_append, List.take_append, I16.c_length, List.take_of_length_le, List.drop_of_length_le]
theorem FC.set_fn (x : FC) (v : SV) : splice x.c 53 [v] = FC.c { x with fn := v } := by simp [splice, FC.c, List.drop_append, List.take_append, I16.c_length, List.take_of_length_le, List.drop_of_length_le]
theorem FC.set_ti (x : FC) (v : SV) : splice x.c 54 [v] = FC.c { x with ti := v } := by simp [splice, FC.c, List.drop_append, List.take_append, I16.c_length, List.take_of_length_le, List.drop_of_length_le]
theorem FC.set_tn (x : FC) (v : SV) : splice x.c 55 [v] = FC.c { x with tn := v } := by simp [splice, FC.c, List.drop_append, List.take_append, I16.c_length, List.take_of_length_le, List.drop_of_length_le]
theorem FC.set_tr (x : FC) (v : SV) : splice x.c 56 [v] = FC.c { x with tr := v } := by simp [splice, FC.c, List.drop_append, List.take_append, I16.c_length, List.take_of_length_le, List.drop_of_length_le]
theorem FC.set_is (x : FC) (v : SV) : splice x.c 57 [v] = FC.c { x with is := v } := by simp [splice, FC.c, List.drop_append, List.take_append, I16.c_length, List.take_of_length_le, List.drop_of_length_le]
theorem FC.set_vn (x : FC) (v : SV) : splice x.c 74 [v] = FC.c { x with vn := v } := by simp [splice, FC.c, List.drop_append, List.take_append, I16.c_length, List.take_of_length_le, List.drop_of_length_le]
theorem FC.set_val (x : FC) (v : SV) : splice x.c 91 [v] = FC.c { x with val := v } := by simp [splice, FC.c, List.drop_append, List.take_append, I16.c_length, List.take_of_length_le, List.drop_of_length_le]
theorem FC.set_op (x : FC) (v : SV) : splice x.c 92 [v] = FC.c { x with op := v } := by simp [splice, FC.c, List.drop_append, List.take_append, I16.c_length, List.take_of_length_le, List.drop_of_length_le]
theorem FC.set_ttl (x : FC) (v : SV) : splice x.c 93 [v] = FC.c { x with ttl := v } := by simp [splice, FC.c, List.drop_append, List.take_append, I16.c_length, List.take_of_length_le, List.drop_of_length_le]
theorem FC.set_tx (x : FC) (v : SV) : splice x.c 94 [v] = FC.c { x with tx := v } := by simp [splice, FC.c, List.drop_append, List.take_append, I16.c_length, List.take_of_length_le, List.drop_of_length_le]
theorem FC.set_who (x : FC) (v : I16) : splice x.c 1 v.c = FC.c { x with who := v } := by simp [splice, FC.c, List.drop_append, List.take_append, I16.c_length, List.take_of_length_le, List.drop_of_length_le]
theorem FC.set_a (x : FC) (v : I16) : splice x.c 19 v.c = FC.c { x with a := v } := by simp [splice, FC.c, List.drop_append, List.take_append, I16.c_length, List.take_of_length_le, List.drop_of_length_le]
theorem FC.set_b (x : FC) (v : I16) : splice x.c 35 v.c = FC.c { x with b := v } := by simp [splice, FC.c, List.drop_append, List.take_append, I16.c_length, List.take_of_length_le, List.drop_of_length_le]
theorem FC.set_key (x : FC) (v : I16) : splice x.c 58 v.c = FC.c { x with key := v } := by simp [splice, FC.c, List.drop_append, List.take_append, I16.c_length, List.take_of_length_le, List.drop_of_length_le]
theorem FC.set_vwho (x : FC) (v : I16) : splice x.c 75 v.c = FC.c { x with vwho := v } := by simp [splice, FC.c, List.drop_append, List.take_append, I16.c_length, List.take_of_length_le, List.drop_of_length_le]
theorem FC.set_P (x : FC) (u : I16) (v : SV) : splice x.c 1 (u.c ++ [v]) = FC.c { x with who := u, pn := v } := by simp [splice, FC.c, List.drop_append, List.take_append, I16.c_length, List.take_of_length_le, List.drop_of_length_le]
theorem FC.set_from (x : FC) (u v : SV) : splice x.c 52 [u, v] = FC.c { x with fi := u, fn := v } := by simp [splice, FC.c, List.drop_append, List.take_append, I16.c_length, List.take_of_length_le, List.drop_of_length_le]
theorem FC.set_to (x : FC) (u v : SV) : splice x.c 54 [u, v] = FC.c { x with ti := u, tn := v } := by simp [splice, FC.c, List.drop_append, List.take_append, I16.c_length, List.take_of_length_le, List.drop_of_length_le]
theorem FC.set_ver (x : FC) (u : SV) (v : I16) : splice x.c 74 (u :: v.c) = FC.c { x with vn := u, vwho := v } := by simp [splice, FC.c, List.drop_append, List.take_append, I16.c_length, List.take_of_length_le, List.drop_of_length_le]
theorem FC.set_item (x : FC) (k : I16) (u : SV) (v : I16) (t : SV) : splice x.c 58 (k.c ++ (u :: (v.c ++ [t]))) = FC.c { x with key := k, vn := u, vwho := v, val := t } := by simp [splice, FC.c, List.drop_append, List.take_append, I16.c_length, List.take_of_length_le, List.drop_of_length_le]
theorem FC.set_all (x y : FC) : splice x.c 0 y.c = y.c := splice_all _ _ (by rw [FC.c_length, FC.c_length])
theorem FC.one (x : FC) (h : ([x.kind, x.pn, x.toA, x.n, x.fi, x.fn, x.ti, x.tn, x.tr, x.is, x.vn, x.val, x.op, x.ttl, x.tx].all SV.one) = true) : x.c.all SV.one = true := by
  simp only [List.all_cons, List.all_nil, Bool.and_true, Bool.and_eq_true] at h
  simp [FC.c, List.all_append, I16.one, h]
theorem FC.flat (x : FC) (h : SV.flatL [x.kind, x.pn, x.toA, x.n, x.fi, x.fn, x.ti, x.tn, x.tr, x.is, x.vn, x.val, x.op, x.ttl, x.tx] = true) : SV.flatL x.c = true := by
  simp only [flatL_cons, flatL_nil, Bool.and_true, Bool.and_eq_true] at h
  simp [FC.c, flatL_cons, flatL_app, I16.flat, flatL_nil, h]
end Go.SL
