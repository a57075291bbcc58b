/- Contracts of functions that the laws reach, on abstract values, and what they need: no conditions but those that each theorem states. -/
import Derived.Test.YtheodenjjaoncaaRepP
import Derived.Test.YtheodenjjaoncaaWinP
set_option linter.unusedVariables false
set_option linter.unusedSimpArgs false
set_option linter.defProp false
namespace Go.SL
open Go
theorem renL_append (ρ : Nat → Nat) : ∀ l m : List SV, SV.renL ρ (l ++ m) = SV.renL ρ l ++ SV.renL ρ m
  | [], m => rfl
  | x :: l, m => by rw [List.cons_append, renL_cons, renL_cons, renL_append ρ l m, List.cons_append]
theorem EntL_pre {fz : Nat → Option SB} {ρ : Nat → Nat} : ∀ (p l m : List SV), SV.flatL p = true → EntL fz ρ (p ++ l) (p ++ m) = EntL fz ρ l m
  | [], _, _, _ => rfl
  | x :: p, l, m, h => by
    simp only [flatL_cons, Bool.and_eq_true] at h
    rw [List.cons_append, List.cons_append, EntL_cons, EntL_pre p l m h.2, eq_true (Ent.self h.1), true_and]
structure H1 where
  fi : SV
  fn : SV
  ti : SV
  tn : SV
  a : I16
def H1.c (x : H1) : List SV := (x.fi :: (x.fn :: (x.ti :: (x.tn :: (x.a.c ++ [])))))
theorem H1.c_length (x : H1) : x.c.length = 20 := by simp [H1.c, I16.c_length]
theorem H1.part_a (x : H1) : spart true x.c 4 16 = .agg x.a.c := by simp [spart, H1.c, List.drop_append, List.take_append, I16.c_length, List.take_of_length_le, List.drop_of_length_le]
theorem H1.set_a (x : H1) (v : I16) : splice x.c 4 v.c = H1.c { x with a := v } := by simp [splice, H1.c, List.drop_append, List.take_append, I16.c_length, List.take_of_length_le, List.drop_of_length_le]
theorem H1.part_from (x : H1) : spart true x.c 0 2 = .agg ([x.fi, x.fn]) := by simp [spart, H1.c, List.drop_append, List.take_append, I16.c_length, List.take_of_length_le, List.drop_of_length_le]
theorem H1.set_from (x : H1) (u_fi : SV) (u_fn : SV) : splice x.c 0 ([u_fi, u_fn]) = H1.c { x with fi := u_fi, fn := u_fn } := by simp [splice, H1.c, List.drop_append, List.take_append, I16.c_length, List.take_of_length_le, List.drop_of_length_le]
theorem H1.part_to (x : H1) : spart true x.c 2 2 = .agg ([x.ti, x.tn]) := by simp [spart, H1.c, List.drop_append, List.take_append, I16.c_length, List.take_of_length_le, List.drop_of_length_le]
theorem H1.set_to (x : H1) (u_ti : SV) (u_tn : SV) : splice x.c 2 ([u_ti, u_tn]) = H1.c { x with ti := u_ti, tn := u_tn } := by simp [splice, H1.c, List.drop_append, List.take_append, I16.c_length, List.take_of_length_le, List.drop_of_length_le]
theorem H1.part (x : H1) : spart true x.c 0 20 = .agg x.c := by simp [spart, List.take_of_length_le, H1.c_length]
theorem H1.set_all (x y : H1) : splice x.c 0 y.c = y.c := splice_all _ _ (by rw [H1.c_length, H1.c_length])
theorem H1.one (x : H1) : x.c.all SV.one = (x.fi.one && x.fn.one && x.ti.one && x.tn.one) := by simp [H1.c, List.all_append, I16.one, Bool.and_assoc]
theorem H1.flat (x : H1) : SV.flatL x.c = (x.fi.flat && x.fn.flat && x.ti.flat && x.tn.flat) := by simp [H1.c, flatL_cons, flatL_app, I16.flat, flatL_nil, Bool.and_assoc]
theorem H1.renc (ρ : Nat → Nat) (x : H1) : SV.renL ρ x.c = H1.c ⟨SV.ren ρ x.fi, SV.ren ρ x.fn, SV.ren ρ x.ti, SV.ren ρ x.tn, x.a⟩ := by simp [H1.c, renL_cons, renL_append, renL_flat _ _ (I16.flat _), renL_nil]
theorem H1.ent {fz : Nat → Option SB} {ρ : Nat → Nat} (fi : SV) (fn : SV) (ti : SV) (tn : SV) (a : I16) (fi' : SV) (fn' : SV) (ti' : SV) (tn' : SV) : EntL fz ρ (H1.c ⟨fi, fn, ti, tn, a⟩) (H1.c ⟨fi', fn', ti', tn', a⟩) = (Ent fz ρ fi fi' ∧ Ent fz ρ fn fn' ∧ Ent fz ρ ti ti' ∧ Ent fz ρ tn tn') := by
  simp only [H1.c, EntL_pre _ _ _ (I16.flat _), EntL_cons, EntL_nil, and_true, EntL_self _ (I16.flat _)]
structure EC where
  id : I16
  up : SV
  op : SV
  mi : SV
  mn : SV
  pi : SV
  pn : SV
  pid : I16
  w : SV
def EC.c (x : EC) : List SV := (x.id.c ++ (x.up :: (x.op :: (x.mi :: (x.mn :: (x.pi :: (x.pn :: (x.pid.c ++ (x.w :: [])))))))))
theorem EC.c_length (x : EC) : x.c.length = 39 := by simp [EC.c, I16.c_length]
theorem EC.part_id (x : EC) : spart true x.c 0 16 = .agg x.id.c := by simp [spart, EC.c, List.drop_append, List.take_append, I16.c_length, List.take_of_length_le, List.drop_of_length_le]
theorem EC.set_id (x : EC) (v : I16) : splice x.c 0 v.c = EC.c { x with id := v } := by simp [splice, EC.c, List.drop_append, List.take_append, I16.c_length, List.take_of_length_le, List.drop_of_length_le]
theorem EC.at_up (x : EC) : cellAt x.c 16 = x.up := cellAt_get _ _ _ (by simp [EC.c, List.getElem?_append, I16.c_length])
theorem EC.set_up (x : EC) (v : SV) : splice x.c 16 [v] = EC.c { x with up := v } := by simp [splice, EC.c, List.drop_append, List.take_append, I16.c_length, List.take_of_length_le, List.drop_of_length_le]
theorem EC.at_op (x : EC) : cellAt x.c 17 = x.op := cellAt_get _ _ _ (by simp [EC.c, List.getElem?_append, I16.c_length])
theorem EC.set_op (x : EC) (v : SV) : splice x.c 17 [v] = EC.c { x with op := v } := by simp [splice, EC.c, List.drop_append, List.take_append, I16.c_length, List.take_of_length_le, List.drop_of_length_le]
theorem EC.part_pid (x : EC) : spart true x.c 22 16 = .agg x.pid.c := by simp [spart, EC.c, List.drop_append, List.take_append, I16.c_length, List.take_of_length_le, List.drop_of_length_le]
theorem EC.set_pid (x : EC) (v : I16) : splice x.c 22 v.c = EC.c { x with pid := v } := by simp [splice, EC.c, List.drop_append, List.take_append, I16.c_length, List.take_of_length_le, List.drop_of_length_le]
theorem EC.at_w (x : EC) : cellAt x.c 38 = x.w := cellAt_get _ _ _ (by simp [EC.c, List.getElem?_append, I16.c_length])
theorem EC.set_w (x : EC) (v : SV) : splice x.c 38 [v] = EC.c { x with w := v } := by simp [splice, EC.c, List.drop_append, List.take_append, I16.c_length, List.take_of_length_le, List.drop_of_length_le]
theorem EC.part_mine (x : EC) : spart true x.c 18 2 = .agg ([x.mi, x.mn]) := by simp [spart, EC.c, List.drop_append, List.take_append, I16.c_length, List.take_of_length_le, List.drop_of_length_le]
theorem EC.set_mine (x : EC) (u_mi : SV) (u_mn : SV) : splice x.c 18 ([u_mi, u_mn]) = EC.c { x with mi := u_mi, mn := u_mn } := by simp [splice, EC.c, List.drop_append, List.take_append, I16.c_length, List.take_of_length_le, List.drop_of_length_le]
theorem EC.part_peer (x : EC) : spart true x.c 20 2 = .agg ([x.pi, x.pn]) := by simp [spart, EC.c, List.drop_append, List.take_append, I16.c_length, List.take_of_length_le, List.drop_of_length_le]
theorem EC.set_peer (x : EC) (u_pi : SV) (u_pn : SV) : splice x.c 20 ([u_pi, u_pn]) = EC.c { x with pi := u_pi, pn := u_pn } := by simp [splice, EC.c, List.drop_append, List.take_append, I16.c_length, List.take_of_length_le, List.drop_of_length_le]
theorem EC.part (x : EC) : spart true x.c 0 39 = .agg x.c := by simp [spart, List.take_of_length_le, EC.c_length]
theorem EC.set_all (x y : EC) : splice x.c 0 y.c = y.c := splice_all _ _ (by rw [EC.c_length, EC.c_length])
theorem EC.one (x : EC) : x.c.all SV.one = (x.up.one && x.op.one && x.mi.one && x.mn.one && x.pi.one && x.pn.one && x.w.one) := by simp [EC.c, List.all_append, I16.one, Bool.and_assoc]
theorem EC.flat (x : EC) : SV.flatL x.c = (x.up.flat && x.op.flat && x.mi.flat && x.mn.flat && x.pi.flat && x.pn.flat && x.w.flat) := by simp [EC.c, flatL_cons, flatL_app, I16.flat, flatL_nil, Bool.and_assoc]
theorem EC.renc (ρ : Nat → Nat) (x : EC) : SV.renL ρ x.c = EC.c ⟨x.id, SV.ren ρ x.up, SV.ren ρ x.op, SV.ren ρ x.mi, SV.ren ρ x.mn, SV.ren ρ x.pi, SV.ren ρ x.pn, x.pid, SV.ren ρ x.w⟩ := by simp [EC.c, renL_cons, renL_append, renL_flat _ _ (I16.flat _), renL_nil]
theorem EC.ent {fz : Nat → Option SB} {ρ : Nat → Nat} (id : I16) (up : SV) (op : SV) (mi : SV) (mn : SV) (pi : SV) (pn : SV) (pid : I16) (w : SV) (up' : SV) (op' : SV) (mi' : SV) (mn' : SV) (pi' : SV) (pn' : SV) (w' : SV) : EntL fz ρ (EC.c ⟨id, up, op, mi, mn, pi, pn, pid, w⟩) (EC.c ⟨id, up', op', mi', mn', pi', pn', pid, w'⟩) = (Ent fz ρ up up' ∧ Ent fz ρ op op' ∧ Ent fz ρ mi mi' ∧ Ent fz ρ mn mn' ∧ Ent fz ρ pi pi' ∧ Ent fz ρ pn pn' ∧ Ent fz ρ w w') := by
  simp only [EC.c, EntL_pre _ _ _ (I16.flat _), EntL_cons, EntL_nil, and_true, EntL_self _ (I16.flat _)]
theorem FC.one_eq (x : FC) : x.c.all SV.one = (x.kind.one && x.pn.one && x.toA.one && x.n.one && x.fi.one && x.fn.one && x.ti.one && x.tn.one && x.tr.one && x.is.one && x.vn.one && x.val.one && x.op.one && x.ttl.one && x.tx.one) := by simp [FC.c, List.all_append, I16.one, Bool.and_assoc]
theorem FC.flat_eq (x : FC) : SV.flatL x.c = (x.kind.flat && x.pn.flat && x.toA.flat && x.n.flat && x.fi.flat && x.fn.flat && x.ti.flat && x.tn.flat && x.tr.flat && x.is.flat && x.vn.flat && x.val.flat && x.op.flat && x.ttl.flat && x.tx.flat) := by simp [FC.c, flatL_cons, flatL_app, I16.flat, flatL_nil, Bool.and_assoc]
end Go.SL
namespace Go.Proofs
open Go Go.SL
def zF : FC := ⟨.v (.int .i64 0), I16.zero, .v (.int .i64 0), .v (.bool false), I16.zero, I16.zero, .v (.int .i64 0), .v (.int .i64 0), .v (.int .i64 0), .v (.int .i64 0), .v (.int .i64 0), .v (.slice none 0 0), .v (.slice none 0 0), I16.zero, .v (.int .i64 0), I16.zero, .v (.slice none 0 0), .v (.int .i64 0), .v (.int .i64 0), .v (.slice none 0 0)⟩
def zH : H1 := ⟨.v (.int .i64 0), .v (.int .i64 0), .v (.int .i64 0), .v (.int .i64 0), I16.zero⟩
def zE : EC := ⟨I16.zero, .v (.bool false), .v (.bool false), .v (.int .i64 0), .v (.int .i64 0), .v (.int .i64 0), .v (.int .i64 0), I16.zero, .v (.pointer none)⟩
theorem bl151 (parts : List (Nat × SV)) : sBuild Try.prog 151 parts = sagg (sfill (fieldPlaceOf Try.prog 151) zF.c parts) := by
  rw [sBuild_eq, tab.z151, tab.l151]; rfl
theorem bl214 (parts : List (Nat × SV)) : sBuild Try.prog 214 parts = sagg (sfill (fieldPlaceOf Try.prog 214) zH.c parts) := by
  rw [sBuild_eq, tab.z214, tab.l214]; rfl
theorem bl204 (parts : List (Nat × SV)) : sBuild Try.prog 204 parts = sagg (sfill (fieldPlaceOf Try.prog 204) zE.c parts) := by
  rw [sBuild_eq, tab.z204, tab.l204]; rfl
theorem al151 (N : Nat) : sAlloc Try.prog N 151 = some ⟨.ptr N 0 0, ⟨none, some (.row ⟨95, 1, true, 151, fun _ => zF.c⟩)⟩, True⟩ := sAlloc_eq N 151 _ tab.z151 rfl
theorem al214 (N : Nat) : sAlloc Try.prog N 214 = some ⟨.ptr N 0 0, ⟨none, some (.row ⟨20, 1, true, 214, fun _ => zH.c⟩)⟩, True⟩ := sAlloc_eq N 214 _ tab.z214 rfl
theorem al23 (N : Nat) : sAlloc Try.prog N 23 = some ⟨.ptr N 0 0, ⟨none, some (.row ⟨16, 1, true, 23, fun _ => I16.zero.c⟩)⟩, True⟩ := sAlloc_eq N 23 _ tab.z23 rfl
def helpc0 :=
  (And.intro (And.intro @cells_agg (And.intro @cells_int @fieldPlaceOf_eq)) (And.intro (And.intro @sagg_some @sfill1_some) (And.intro @sfill_cons @sfill_nil)))
def helpb0 :=
  (And.intro (And.intro (And.intro helpc0 @FC.set_a) (And.intro @FC.set_from (And.intro @FC.set_kind @FC.set_to))) (And.intro (And.intro @bl151 @tab.f151x0) (And.intro @tab.f151x3 (And.intro @tab.f151x6 @tab.f151x7))))
theorem build151h (fi fn ti tn : SV) (a : I16) : sBuild Try.prog 151 [(0, .v (.int .i64 1)), (6, .agg [fi, fn]), (7, .agg [ti, tn]), (3, .agg a.c)] = some ⟨.agg (FC.c { zF with kind := .v (.int .i64 1), fi := fi, fn := fn, ti := ti, tn := tn, a := a }), {}, True⟩ := by
  simp (disch := simp [FC.c_length, I16.c_length]) only [helpb0, Option.map_some]
def helpb1 :=
  (And.intro (And.intro (And.intro helpc0 @FC.set_from) (And.intro @FC.set_kind (And.intro @FC.set_n @FC.set_to))) (And.intro (And.intro @bl151 @tab.f151x0) (And.intro @tab.f151x5 (And.intro @tab.f151x6 @tab.f151x7))))
theorem build151a (fi fn ti tn : SV) (n : Int) : sBuild Try.prog 151 [(0, .v (.int .i64 3)), (6, .agg [fi, fn]), (7, .agg [ti, tn]), (5, .v (.int .i64 n))] = some ⟨.agg (FC.c { zF with kind := .v (.int .i64 3), fi := fi, fn := fn, ti := ti, tn := tn, n := .v (.int .i64 n) }), {}, True⟩ := by
  simp (disch := simp [FC.c_length, I16.c_length]) only [helpb1, Option.map_some]
def helpb2 :=
  (And.intro (And.intro (And.intro helpc0 @H1.set_a) (And.intro @H1.set_from @H1.set_to)) (And.intro (And.intro @bl214 @tab.f214x0) (And.intro @tab.f214x1 @tab.f214x2)))
theorem build214 (fi fn ti tn : SV) (a : I16) : sBuild Try.prog 214 [(0, .agg [fi, fn]), (1, .agg [ti, tn]), (2, .agg a.c)] = some ⟨.agg (H1.c ⟨fi, fn, ti, tn, a⟩), {}, True⟩ := by
  simp (disch := simp [H1.c_length, I16.c_length]) only [helpb2, Option.map_some]
def helpb3 :=
  (And.intro (And.intro (And.intro helpc0 (And.intro @EC.set_id @EC.set_mine)) (And.intro @EC.set_up (And.intro @EC.set_w @bl204))) (And.intro (And.intro @cells_bool (And.intro @cells_ptr @tab.f204x0)) (And.intro (And.intro @tab.f204x1 @tab.f204x3) (And.intro @tab.f204x6 @zE.eq_1))))
theorem build204r (i : I16) (mi mn : SV) (b : Nat) : sBuild Try.prog 204 [(0, .agg i.c), (1, .v (.bool true)), (3, .agg [mi, mn]), (6, .ptr b 0 0)] = some ⟨.agg (EC.c ⟨i, .v (.bool true), .v (.bool false), mi, mn, .v (.int .i64 0), .v (.int .i64 0), I16.zero, .ptr b 0 0⟩), {}, True⟩ := by
  simp (disch := simp [EC.c_length, I16.c_length]) only [helpb3, Option.map_some]
def helpb4 :=
  (And.intro (And.intro (And.intro helpc0 @EC.set_id) (And.intro @EC.set_w @bl204)) (And.intro (And.intro @cells_bool @cells_ptr) (And.intro @tab.f204x0 (And.intro @tab.f204x6 @zE.eq_1))))
theorem build204f (i : I16) (b : Nat) : sBuild Try.prog 204 [(0, .agg i.c), (6, .ptr b 0 0)] = some ⟨.agg (EC.c ⟨i, .v (.bool false), .v (.bool false), .v (.int .i64 0), .v (.int .i64 0), .v (.int .i64 0), .v (.int .i64 0), I16.zero, .ptr b 0 0⟩), {}, True⟩ := by
  simp (disch := simp [EC.c_length, I16.c_length]) only [helpb4, Option.map_some]
theorem build135z : sBuild Try.prog 135 [] = some ⟨.agg [.v (.int .i64 0), .v (.int .i64 0)], {}, True⟩ := by
  rw [sBuild_eq, tab.z135, tab.l135]; rfl
end Go.Proofs
namespace Go.SL
open Go
theorem sop_assert (P : Program) (N : Nat) (get : Nat → Option SK) (ev : Operand → SV) (x : Operand) (t A : TypeId) (ok : Bool) : sop P N get ev (.typeAssert x t A ok) = sAssert P (ev x) A ok := Eq.trans rfl rfl
end Go.SL
namespace Go.Proofs
open Go Go.SL
set_option maxRecDepth 100000
theorem sassert_hit (A : TypeId) (v : SV) (d : TypeDesc) (hu : Try.prog.underlying A = some d) (hd : ∀ m, d ≠ .interface m) : sAssert Try.prog (.ifc A v) A true = some ⟨.tup [v, .v (.bool true)], {}, True⟩ := by
  unfold sAssert
  rw [hu]
  cases d <;> simp_all
theorem sassert_miss (t A : TypeId) (v z : SV) (d : TypeDesc) (hu : Try.prog.underlying A = some d) (hd : ∀ m, d ≠ .interface m) (h : t ≠ A) (hz : sZero Try.prog A = some z) : sAssert Try.prog (.ifc t v) A true = some ⟨.tup [z, .v (.bool false)], {}, True⟩ := by
  unfold sAssert
  rw [hu, hz]
  cases d <;> simp_all
theorem splice_s (x : SV) (l : List SV) (k : Nat) (v : List SV) : splice (x :: l) (k + 1) v = x :: splice l k v := by simp [splice, Nat.add_right_comm]
theorem splice_c (x : SV) (l : List SV) (y : SV) (v : List SV) : splice (x :: l) 0 (y :: v) = y :: splice l 0 v := by simp [splice]
theorem splice_0 (l : List SV) : splice l 0 [] = l := by simp [splice]
theorem sp02 (a b : SV) (l : List SV) : spart true (a :: b :: l) 0 2 = .agg [a, b] := Eq.trans rfl rfl
theorem sp22 (a b c d : SV) (l : List SV) : spart true (a :: b :: c :: d :: l) 2 2 = .agg [c, d] := Eq.trans rfl rfl
def zD : List SV := [.v (.int .i64 0), .v (.int .i64 0), .v (.int .i64 0), .v (.int .i64 0), .v (.int .i64 0), .v (.slice none 0 0)]
def zK : List SV := [.v (.int .i64 0), .v (.int .i64 0), .v (.int .i64 0), .v (.int .i64 0), .v (.int .i64 0)]
theorem sz214 : sZero Try.prog 214 = some (.agg zH.c) := by kernel_rfl
theorem sz210 : sZero Try.prog 210 = some (.agg zD) := by kernel_rfl
theorem hit214 (v : SV) : sAssert Try.prog (.ifc 214 v) 214 true = some ⟨.tup [v, .v (.bool true)], {}, True⟩ := sassert_hit 214 v _ tab.u214 (fun _ h => nomatch h)
theorem hit210 (v : SV) : sAssert Try.prog (.ifc 210 v) 210 true = some ⟨.tup [v, .v (.bool true)], {}, True⟩ := sassert_hit 210 v _ tab.u210 (fun _ h => nomatch h)
theorem hit218 (v : SV) : sAssert Try.prog (.ifc 218 v) 218 true = some ⟨.tup [v, .v (.bool true)], {}, True⟩ := sassert_hit 218 v _ tab.u218 (fun _ h => nomatch h)
theorem miss214 (t : TypeId) (v : SV) (h : t ≠ 214) : sAssert Try.prog (.ifc t v) 214 true = some ⟨.tup [.agg zH.c, .v (.bool false)], {}, True⟩ := sassert_miss t 214 v _ _ tab.u214 (fun _ h => nomatch h) h sz214
theorem miss210 (t : TypeId) (v : SV) (h : t ≠ 210) : sAssert Try.prog (.ifc t v) 210 true = some ⟨.tup [.agg zD, .v (.bool false)], {}, True⟩ := sassert_miss t 210 v _ _ tab.u210 (fun _ h => nomatch h) h sz210
theorem al218 (N : Nat) : sAlloc Try.prog N 218 = some ⟨.ptr N 0 0, ⟨none, some (.row ⟨5, 1, true, 218, fun _ => [.v (.int .i64 0), .v (.int .i64 0), .v (.int .i64 0), .v (.int .i64 0), .v (.int .i64 0)]⟩)⟩, True⟩ := sAlloc_eq N 218 _ tab.z218 rfl
theorem al210 (N : Nat) : sAlloc Try.prog N 210 = some ⟨.ptr N 0 0, ⟨none, some (.row ⟨6, 1, true, 210, fun _ => [.v (.int .i64 0), .v (.int .i64 0), .v (.int .i64 0), .v (.int .i64 0), .v (.int .i64 0), .v (.slice none 0 0)]⟩)⟩, True⟩ := sAlloc_eq N 210 _ tab.z210 rfl
theorem mk214 (x : SV) : sMakeIface Try.prog 214 x = some ⟨.ifc 214 x, {}, True⟩ := by unfold sMakeIface; rw [tab.u214]
theorem mk210 (x : SV) : sMakeIface Try.prog 210 x = some ⟨.ifc 210 x, {}, True⟩ := by unfold sMakeIface; rw [tab.u210]
theorem mk218 (x : SV) : sMakeIface Try.prog 218 x = some ⟨.ifc 218 x, {}, True⟩ := by unfold sMakeIface; rw [tab.u218]
theorem bl218 (fi fn ti tn n : Int) : sBuild Try.prog 218 [(0, .agg [.v (.int .i64 fi), .v (.int .i64 fn)]), (1, .agg [.v (.int .i64 ti), .v (.int .i64 tn)]), (2, .v (.int .i64 n))] = some ⟨.agg [.v (.int .i64 fi), .v (.int .i64 fn), .v (.int .i64 ti), .v (.int .i64 tn), .v (.int .i64 n)], {}, True⟩ := by
  rw [sBuild_eq, tab.z218, tab.l218]; rfl
def helpc1 :=
  (And.intro (And.intro @EC.c_length @FC.c_length) (And.intro @H1.c_length @I16.c_length))
def helpc2 :=
  (And.intro (And.intro (And.intro @EC.one @FC.flat_eq) (And.intro @FC.one_eq (And.intro @H1.one @I16.one))) (And.intro (And.intro @bdset_a @zD.eq_1) (And.intro @zF.eq_1 (And.intro @zH.eq_1 @zK.eq_1))))
def helpb5 :=
  (And.intro (And.intro helpc1 (And.intro helpc2 @EC.flat)) (And.intro @H1.flat (And.intro @I16.flat @zE.eq_1)))
def helpc3 :=
  (And.intro (And.intro (And.intro (And.intro @EC.part (And.intro @EC.set_all @FC.part)) (And.intro @FC.set_all (And.intro @H1.part @H1.part_a))) (And.intro (And.intro @H1.part_from (And.intro @H1.part_to @H1.set_all)) (And.intro @I16.part (And.intro @al151 @al210)))) (And.intro (And.intro (And.intro @al214 (And.intro @al218 @al23)) (And.intro @build151a (And.intro @build151h @build214))) (And.intro (And.intro @mk210 (And.intro @mk214 @mk218)) (And.intro @sop_assert (And.intro @sp02 @sp22)))))
def helpc4 :=
  (And.intro (And.intro (And.intro @beq_self_eq_true.{0} (And.intro @brun_a @cond_false.{1})) (And.intro @cond_true.{1} (And.intro @tab.a135 @tab.a2))) (And.intro (And.intro @tab.f135x0 (And.intro @tab.f135x1 @tab.s135)) (And.intro @tab.s2 (And.intro @tab.u135 @tab.u2))))
def helpc5 :=
  (And.intro (And.intro (And.intro @tab.a151 @tab.a3) (And.intro @tab.a35 @tab.f151x13)) (And.intro (And.intro @tab.s151 @tab.s3) (And.intro @tab.s35 (And.intro @tab.u3 @tab.u35))))
def helpc6 :=
  (And.intro (And.intro (And.intro @tab.a23 @tab.a4) (And.intro @tab.a5 @tab.s23)) (And.intro (And.intro @tab.s4 @tab.s5) (And.intro @tab.u23 (And.intro @tab.u4 @tab.u5))))
def helpc7 :=
  (And.intro (And.intro @tab.f210x0 (And.intro @tab.f210x1 @tab.f210x2)) (And.intro @tab.f210x3 (And.intro @tab.s210 @tab.u210)))
def helpc8 :=
  (And.intro (And.intro @tab.f218x0 @tab.f218x1) (And.intro @tab.f218x2 (And.intro @tab.s218 @tab.u218)))
def helpb6 :=
  (And.intro (And.intro (And.intro (And.intro helpc1 helpc3) (And.intro helpc4 helpc5)) (And.intro (And.intro helpc6 helpc7) (And.intro helpc8 (And.intro @hit214 @tab.a214)))) (And.intro (And.intro (And.intro @tab.f151x0 @tab.f151x3) (And.intro @tab.f151x5 (And.intro @tab.f151x6 @tab.f151x7))) (And.intro (And.intro @tab.f214x0 @tab.f214x1) (And.intro @tab.f214x2 (And.intro @tab.s214 @tab.u214)))))
def helpb7 :=
  (And.intro (And.intro (And.intro (And.intro helpc1 helpc3) (And.intro helpc4 (And.intro helpc5 helpc6))) (And.intro (And.intro helpc7 (And.intro helpc8 @bwk_a)) (And.intro @eq_self.{1} (And.intro @forall_const.{1} @implies_true.{0})))) (And.intro (And.intro (And.intro @implies_true.{1} (And.intro @tab.a214 @tab.f151x0)) (And.intro @tab.f151x3 (And.intro @tab.f151x5 @tab.f151x6))) (And.intro (And.intro @tab.f151x7 (And.intro @tab.f214x0 @tab.f214x1)) (And.intro @tab.f214x2 (And.intro @tab.s214 @tab.u214)))))
theorem plainH_calls (fi fn ti tn : Int) (a : I16) : Pure Try.prog 123 [.ifc 214 (.agg (H1.c ⟨.v (.int .i64 fi), .v (.int .i64 fn), .v (.int .i64 ti), .v (.int .i64 tn), a⟩))] (.agg (FC.c { zF with kind := .v (.int .i64 1), fi := .v (.int .i64 fi), fn := .v (.int .i64 fn), ti := .v (.int .i64 ti), tn := .v (.int .i64 tn), a := a })) := by
  refine SCall.mk (fn := Try.f123) (by kernel_rfl) rfl (Nat.le_of_ble_eq_true (by kernel_rfl)) ?_
  refine Sem.go (k := 1000) ?_
  simp -dsimp (decide := true) (disch := first | omega | simp (decide := true) only [helpb5]) only [helpb6, ↓brun_b, envOf, reduceIte, Nat.reduceEqDiff, Nat.reduceAdd, Nat.reduceSub, Nat.reduceMul, Nat.reduceBEq, Nat.reduceLeDiff, Nat.reduceLT, Int.reduceToNat]
  refine SQ.answer (rs := [.cell 2 151]) rfl rfl ?_
  simp -dsimp (decide := true) (disch := first | omega | simp (decide := true) only [helpb5]) only [helpb7, ↓brun_b, envOf, reduceIte, Nat.reduceEqDiff, Nat.reduceAdd, Nat.reduceSub, Nat.reduceMul, Nat.reduceBEq, Nat.reduceLeDiff, Nat.reduceLT, Int.reduceToNat, frz1, rho, ↓reduceIte]
def helpc9 :=
  (And.intro (And.intro @cellAt_succ @cellAt_zero) (And.intro @splice_0 (And.intro @splice_c @splice_s)))
def helpb8 :=
  (And.intro (And.intro (And.intro (And.intro helpc1 helpc3) (And.intro helpc4 (And.intro helpc9 helpc5))) (And.intro (And.intro helpc6 helpc7) (And.intro helpc8 (And.intro @hit218 @tab.a214)))) (And.intro (And.intro (And.intro @tab.f151x0 @tab.f151x3) (And.intro @tab.f151x5 (And.intro @tab.f151x6 @tab.f151x7))) (And.intro (And.intro @tab.f214x0 @tab.f214x1) (And.intro @tab.f214x2 (And.intro @tab.s214 @tab.u214)))))
theorem plainK_calls (fi fn ti tn n : Int) : Pure Try.prog 123 [.ifc 218 (.agg [.v (.int .i64 fi), .v (.int .i64 fn), .v (.int .i64 ti), .v (.int .i64 tn), .v (.int .i64 n)])] (.agg (FC.c { zF with kind := .v (.int .i64 3), fi := .v (.int .i64 fi), fn := .v (.int .i64 fn), ti := .v (.int .i64 ti), tn := .v (.int .i64 tn), n := .v (.int .i64 n) })) := by
  refine SCall.mk (fn := Try.f123) (by kernel_rfl) rfl (Nat.le_of_ble_eq_true (by kernel_rfl)) ?_
  refine Sem.go (k := 1000) ?_
  simp -dsimp (decide := true) (disch := first | omega | simp (decide := true) only [helpb5]) only [helpb8, ↓brun_b, envOf, reduceIte, Nat.reduceEqDiff, Nat.reduceAdd, Nat.reduceSub, Nat.reduceMul, Nat.reduceBEq, Nat.reduceLeDiff, Nat.reduceLT, Int.reduceToNat, fun v => miss214 218 v (by decide), fun v => miss210 218 v (by decide)]
  refine SQ.answer (rs := [.cell 2 151]) rfl rfl ?_
  simp -dsimp (decide := true) (disch := first | omega | simp (decide := true) only [helpb5]) only [helpb7, ↓brun_b, envOf, reduceIte, Nat.reduceEqDiff, Nat.reduceAdd, Nat.reduceSub, Nat.reduceMul, Nat.reduceBEq, Nat.reduceLeDiff, Nat.reduceLT, Int.reduceToNat, frz1, rho, ↓reduceIte]
def helpb9 :=
  (And.intro helpc4 helpc9)
def helpb10 :=
  (And.intro (And.intro helpc4 (And.intro helpc9 @bwk_a)) (And.intro (And.intro @eq_self.{1} @forall_const.{1}) (And.intro @implies_true.{0} @implies_true.{1})))
theorem numLess_calls (ai an bi bn : Int) : Pure Try.prog 171 [.agg [.v (.int .i64 ai), .v (.int .i64 an)], .agg [.v (.int .i64 bi), .v (.int .i64 bn)]] (.v (.bool (decide (ai < bi) || (decide (ai = bi) && decide (an < bn))))) := by
  cases c1 : decide (ai < bi) <;> cases c2 : decide (ai = bi) <;> cases c3 : decide (an < bn)
  all_goals
    refine SCall.mk (fn := Try.f171) (by kernel_rfl) rfl (Nat.le_of_ble_eq_true (by kernel_rfl)) ?_
    refine Sem.go (k := 1000) ?_
    simp -dsimp (decide := true) (disch := first | omega | simp (decide := true) only [helpb5]) only [helpb9, ↓brun_b, envOf, reduceIte, Nat.reduceEqDiff, Nat.reduceAdd, Nat.reduceSub, Nat.reduceMul, Nat.reduceBEq, Nat.reduceLeDiff, Nat.reduceLT, Int.reduceToNat, c1, c2, c3]
    refine SQ.answer (rs := [.tmp 4]) rfl rfl ?_
    simp -dsimp (decide := true) (disch := first | omega | simp (decide := true) only [helpb5]) only [helpb10, ↓brun_b, envOf, reduceIte, Nat.reduceEqDiff, Nat.reduceAdd, Nat.reduceSub, Nat.reduceMul, Nat.reduceBEq, Nat.reduceLeDiff, Nat.reduceLT, Int.reduceToNat, c1, c2, c3, frz1, rho, ↓reduceIte]
    try rfl
end Go.Proofs
namespace Go.Proofs
open Go Go.SL
set_option maxRecDepth 100000
theorem fh_flat (mi mn pi pn : Int) (id : I16) : SV.flatL (FC.c { zF with kind := .v (.int .i64 1), fi := .v (.int .i64 mi), fn := .v (.int .i64 mn), ti := .v (.int .i64 pi), tn := .v (.int .i64 pn), a := id }) = true := by simp [FC.flat_eq, zF, flat_v]
theorem fk_flat (mi mn pi pn got : Int) : SV.flatL (FC.c { zF with kind := .v (.int .i64 3), fi := .v (.int .i64 mi), fn := .v (.int .i64 mn), ti := .v (.int .i64 pi), tn := .v (.int .i64 pn), n := .v (.int .i64 got) }) = true := by simp [FC.flat_eq, zF, flat_v]
def helpb11 :=
  (And.intro (And.intro (And.intro helpc1 (And.intro helpc2 @EC.flat)) (And.intro @H1.flat (And.intro @I16.flat @brow_flat))) (And.intro (And.intro @fh_flat (And.intro @fk_flat @trow_flat)) (And.intro (And.intro @trow_len @trows_flat) (And.intro @trows_length @zE.eq_1))))
def helpc10 :=
  (And.intro (And.intro (And.intro @EC.at_op @EC.at_up) (And.intro @EC.at_w (And.intro @EC.part_id @EC.part_mine))) (And.intro (And.intro @EC.part_peer @EC.part_pid) (And.intro @EC.set_op (And.intro @EC.set_peer @EC.set_pid))))
def helpc11 :=
  (And.intro (And.intro (And.intro @EC.ent (And.intro @EC.renc @Int.cast_ofNat_Int)) (And.intro (And.intro @List.replicate_succ.{0} @List.replicate_zero.{0}) (And.intro @SKren_row @after_mk))) (And.intro (And.intro (And.intro @mergeL_done @mergeL_own) (And.intro @mergeL_row @renL_cons)) (And.intro (And.intro @renL_flat @renL_nil) (And.intro @ren_tup @trow_cell))))
def helpc12 :=
  (And.intro (And.intro @tab.a50 (And.intro @tab.f204x2 @tab.f204x4)) (And.intro (And.intro @tab.f204x5 @tab.s204) (And.intro @tab.s50 @tab.u50)))
def helpb12 :=
  (And.intro (And.intro (And.intro (And.intro helpc10 (And.intro helpc1 helpc11)) (And.intro (And.intro helpc3 helpc4) (And.intro helpc9 helpc5))) (And.intro (And.intro (And.intro helpc6 helpc12) (And.intro @EC.set_mine @EC.set_up)) (And.intro (And.intro @EC.set_w @fh_flat) (And.intro @fk_flat @tab.a214)))) (And.intro (And.intro (And.intro @tab.f151x0 (And.intro @tab.f151x3 @tab.f151x5)) (And.intro (And.intro @tab.f151x6 @tab.f151x7) (And.intro @tab.f204x0 @tab.f204x1))) (And.intro (And.intro (And.intro @tab.f204x3 @tab.f204x6) (And.intro @tab.f214x0 @tab.f214x1)) (And.intro (And.intro @tab.f214x2 @tab.s214) (And.intro @tab.u214 @trow_len)))))
def helpb13 :=
  (And.intro (And.intro (And.intro @List.length_cons.{0} @List.length_nil.{0}) (And.intro @Nat.zero_add @roL_in)) (And.intro (And.intro @roL_nil @roL_none) (And.intro @roL_row @ro_mk)))
def helpb14 :=
  (And.intro (And.intro (And.intro @EC.flat @H1.flat) (And.intro @I16.flat @brow_flat)) (And.intro (And.intro @fh_flat @fk_flat) (And.intro @trow_flat @trows_flat)))
def helpb15 :=
  (And.intro (And.intro (And.intro (And.intro helpc4 helpc5) (And.intro helpc6 helpc12)) (And.intro (And.intro @tab.a214 @tab.f151x0) (And.intro @tab.f151x3 (And.intro @tab.f151x5 @tab.f151x6)))) (And.intro (And.intro (And.intro @tab.f151x7 @tab.f204x0) (And.intro @tab.f204x1 (And.intro @tab.f204x3 @tab.f204x6))) (And.intro (And.intro @tab.f214x0 @tab.f214x1) (And.intro @tab.f214x2 (And.intro @tab.s214 @tab.u214)))))
def helpb16 :=
  (And.intro (And.intro (And.intro (And.intro (And.intro helpc10 helpc1) (And.intro helpc11 helpc3)) (And.intro (And.intro helpc4 helpc9) (And.intro helpc5 helpc6))) (And.intro (And.intro (And.intro helpc12 @EC.set_mine) (And.intro @EC.set_up @EC.set_w)) (And.intro (And.intro @bwk_a @eq_self.{1}) (And.intro @fh_flat (And.intro @fk_flat @forall_const.{1}))))) (And.intro (And.intro (And.intro (And.intro @implies_true.{0} @implies_true.{1}) (And.intro @tab.a214 @tab.f151x0)) (And.intro (And.intro @tab.f151x3 @tab.f151x5) (And.intro @tab.f151x6 (And.intro @tab.f151x7 @tab.f204x0)))) (And.intro (And.intro (And.intro @tab.f204x1 @tab.f204x3) (And.intro @tab.f204x6 @tab.f214x0)) (And.intro (And.intro @tab.f214x1 @tab.f214x2) (And.intro @tab.s214 (And.intro @tab.u214 @trow_len))))))
theorem hello_calls (id pid : I16) (up op : Bool) (mi mn pi pn base got : Int) (ts : List (List UInt8)) :
    SCall Try.prog 136 [.ptr 0 0 0] [some (.row ⟨39, 1, false, 204, fun _ => EC.c ⟨id, .v (.bool up), .v (.bool op), .v (.int .i64 mi), .v (.int .i64 mn), .v (.int .i64 pi), .v (.int .i64 pn), pid, .ptr 1 0 0⟩⟩), some (.row ⟨3, 1, false, 197, fun _ => [.v (.int .i64 base),   .slc 2 0 ts.length, .v (.int .i64 got)]⟩), some (.row ⟨1, ts.length, false, 35, trow ts⟩)]
      fun r L => r = .ret (.agg (FC.c { zF with kind := .v (.int .i64 1), fi := .v (.int .i64 mi), fn := .v (.int .i64 mn), ti := .v (.int .i64 pi), tn := .v (.int .i64 pn), a := id })) ∧ L = [none, none, none] := by
  refine SCall.mk (fn := Try.f136) (by kernel_rfl) rfl (Nat.le_of_ble_eq_true (by kernel_rfl)) ?_
  refine Sem.go (k := 1000) ?_
  simp -dsimp (decide := true) (disch := first | omega | simp (decide := true) only [helpb11]) only [helpb12, ↓brun_b, envOf, reduceIte, Nat.reduceEqDiff, Nat.reduceAdd, Nat.reduceSub, Nat.reduceMul, Nat.reduceBEq, Nat.reduceLeDiff, Nat.reduceLT, Int.reduceToNat, rho]
  refine Sem.draw' (by kernel_rfl) (.one 0 (.one 1 (.one 2 (.one 3 (.one 4 (.one 5 (.one 6 (.one 7 (.one 8 (.one 9 (.one 10 (.one 11 (.one 12 (.one 13 (.alt 14 (.alt 15 .done .non) .non))))))))))))))) [3] (by kernel_rfl) (fun G ff hG hf => ?_)
  simp (decide := true) only [helpb13, Nat.reduceAdd] at hG ⊢
  simp -dsimp (decide := true) (disch := first | omega | simp (decide := true) only [helpb11]) only [helpb12, ↓brun_b, envOf, reduceIte, Nat.reduceEqDiff, Nat.reduceAdd, Nat.reduceSub, Nat.reduceMul, Nat.reduceBEq, Nat.reduceLeDiff, Nat.reduceLT, Int.reduceToNat, rho, hG]
  refine OpSem.callq cal.f123 (plainH_calls mi mn pi pn id) rfl rfl rfl (by simp only [bflat_a, helpb14]) (by simp only [bflat_a, helpb14]) (by simp -dsimp (decide := true) (disch := first | omega | simp (decide := true) only [helpb11]) only [helpb15, ↓brun_b, envOf, reduceIte, Nat.reduceEqDiff, Nat.reduceAdd, Nat.reduceSub, Nat.reduceMul, Nat.reduceBEq, Nat.reduceLeDiff, Nat.reduceLT, Int.reduceToNat]) ?_
  simp -dsimp (decide := true) (disch := first | omega | simp (decide := true) only [helpb11]) only [helpb12, ↓brun_b, envOf, reduceIte, Nat.reduceEqDiff, Nat.reduceAdd, Nat.reduceSub, Nat.reduceMul, Nat.reduceBEq, Nat.reduceLeDiff, Nat.reduceLT, Int.reduceToNat, rho, hG]
  refine hf _ (Sem.go (k := 1000) ?_)
  simp (decide := true) only [back_mk, backL_in, backL_row, backL_none, backL_nil, Nat.zero_add, Nat.reduceAdd]
  simp -dsimp (decide := true) (disch := first | omega | simp (decide := true) only [helpb11]) only [helpb12, ↓brun_b, envOf, reduceIte, Nat.reduceEqDiff, Nat.reduceAdd, Nat.reduceSub, Nat.reduceMul, Nat.reduceBEq, Nat.reduceLeDiff, Nat.reduceLT, Int.reduceToNat, rho]
  refine SQ.runL (rs := [.cell 2 151]) [0, 1, 2] _ _ rfl (And.intro rfl rfl) (by decide) rfl rfl ?_ ?_
  · simp -dsimp (decide := true) (disch := first | omega | simp (decide := true) only [helpb11]) only [helpb16, ↓brun_b, envOf, reduceIte, Nat.reduceEqDiff, Nat.reduceAdd, Nat.reduceSub, Nat.reduceMul, Nat.reduceBEq, Nat.reduceLeDiff, Nat.reduceLT, Int.reduceToNat, rho, frz1, ↓reduceIte]
  · simp -dsimp (decide := true) (disch := first | omega | simp (decide := true) only [helpb11]) only [helpb16, ↓brun_b, envOf, reduceIte, Nat.reduceEqDiff, Nat.reduceAdd, Nat.reduceSub, Nat.reduceMul, Nat.reduceBEq, Nat.reduceLeDiff, Nat.reduceLT, Int.reduceToNat, rho, frz1, ↓reduceIte]
def helpb17 :=
  (And.intro (And.intro (And.intro (And.intro helpc10 (And.intro helpc1 helpc11)) (And.intro helpc3 (And.intro helpc4 helpc9))) (And.intro (And.intro helpc5 (And.intro helpc6 helpc12)) (And.intro helpc8 (And.intro @EC.set_mine @EC.set_up)))) (And.intro (And.intro (And.intro @EC.set_w (And.intro @fh_flat @fk_flat)) (And.intro @tab.f151x0 (And.intro @tab.f151x3 @tab.f151x5))) (And.intro (And.intro @tab.f151x6 (And.intro @tab.f151x7 @tab.f204x0)) (And.intro (And.intro @tab.f204x1 @tab.f204x3) (And.intro @tab.f204x6 @trow_len)))))
def helpb18 :=
  (And.intro (And.intro (And.intro (And.intro helpc10 helpc4) (And.intro helpc5 (And.intro helpc6 helpc12))) (And.intro (And.intro helpc8 (And.intro @EC.set_mine @EC.set_up)) (And.intro @EC.set_w (And.intro @bwk_a @eq_self.{1})))) (And.intro (And.intro (And.intro @forall_const.{1} (And.intro @implies_true.{0} @implies_true.{1})) (And.intro @tab.f151x0 (And.intro @tab.f151x3 @tab.f151x5))) (And.intro (And.intro @tab.f151x6 (And.intro @tab.f151x7 @tab.f204x0)) (And.intro @tab.f204x1 (And.intro @tab.f204x3 @tab.f204x6)))))
def helpb19 :=
  (And.intro (And.intro (And.intro helpc4 (And.intro helpc5 helpc6)) (And.intro (And.intro helpc12 helpc8) (And.intro @tab.f151x0 @tab.f151x3))) (And.intro (And.intro @tab.f151x5 (And.intro @tab.f151x6 @tab.f151x7)) (And.intro (And.intro @tab.f204x0 @tab.f204x1) (And.intro @tab.f204x3 @tab.f204x6))))
def helpb20 :=
  (And.intro (And.intro (And.intro (And.intro helpc10 (And.intro helpc1 helpc11)) (And.intro helpc3 (And.intro helpc4 helpc9))) (And.intro (And.intro helpc5 (And.intro helpc6 helpc12)) (And.intro (And.intro helpc8 @EC.set_mine) (And.intro @EC.set_up @EC.set_w)))) (And.intro (And.intro (And.intro @bl218 (And.intro @fh_flat @fk_flat)) (And.intro @tab.f151x0 (And.intro @tab.f151x3 @tab.f151x5))) (And.intro (And.intro @tab.f151x6 (And.intro @tab.f151x7 @tab.f204x0)) (And.intro (And.intro @tab.f204x1 @tab.f204x3) (And.intro @tab.f204x6 @trow_len)))))
def helpb21 :=
  (And.intro (And.intro (And.intro (And.intro helpc10 (And.intro helpc1 helpc11)) (And.intro (And.intro helpc3 helpc4) (And.intro helpc9 helpc5))) (And.intro (And.intro (And.intro helpc6 helpc12) (And.intro helpc8 @EC.set_mine)) (And.intro (And.intro @EC.set_up @EC.set_w) (And.intro @bwk_a @eq_self.{1})))) (And.intro (And.intro (And.intro @fh_flat (And.intro @fk_flat @forall_const.{1})) (And.intro (And.intro @implies_true.{0} @implies_true.{1}) (And.intro @tab.f151x0 @tab.f151x3))) (And.intro (And.intro (And.intro @tab.f151x5 @tab.f151x6) (And.intro @tab.f151x7 @tab.f204x0)) (And.intro (And.intro @tab.f204x1 @tab.f204x3) (And.intro @tab.f204x6 @trow_len)))))
theorem ack_calls (id pid : I16) (up op : Bool) (mi mn pi pn base got : Int) (ts : List (List UInt8)) :
    SCall Try.prog 141 [.ptr 0 0 0] [some (.row ⟨39, 1, false, 204, fun _ => EC.c ⟨id, .v (.bool up), .v (.bool op), .v (.int .i64 mi), .v (.int .i64 mn), .v (.int .i64 pi), .v (.int .i64 pn), pid, .ptr 1 0 0⟩⟩), some (.row ⟨3, 1, false, 197, fun _ => [.v (.int .i64 base),   .slc 2 0 ts.length, .v (.int .i64 got)]⟩), some (.row ⟨1, ts.length, false, 35, trow ts⟩)]
      fun r L => r = .ret (.agg (FC.c { zF with kind := .v (.int .i64 3), fi := .v (.int .i64 mi), fn := .v (.int .i64 mn), ti := .v (.int .i64 pi), tn := .v (.int .i64 pn), n := .v (.int .i64 got) })) ∧ L = [none, none, none] := by
  refine SCall.mk (fn := Try.f141) (by kernel_rfl) rfl (Nat.le_of_ble_eq_true (by kernel_rfl)) ?_
  refine Sem.go (k := 1000) ?_
  simp -dsimp (decide := true) (disch := first | omega | simp (decide := true) only [helpb11]) only [helpb17, ↓brun_b, envOf, reduceIte, Nat.reduceEqDiff, Nat.reduceAdd, Nat.reduceSub, Nat.reduceMul, Nat.reduceBEq, Nat.reduceLeDiff, Nat.reduceLT, Int.reduceToNat, rho]
  refine Sem.draw' (by kernel_rfl) (.one 0 (.one 1 (.one 2 (.one 3 (.one 4 (.one 5 (.one 6 (.one 7 (.one 8 (.one 9 (.one 10 (.one 11 (.alt 12 (.one 13 (.one 14 (.alt 15 (.alt 16 .done .non) .non))) .non))))))))))))) [3] (by kernel_rfl) (fun G ff hG hf => ?_)
  simp (decide := true) only [helpb13, Nat.reduceAdd] at hG ⊢
  simp -dsimp (decide := true) (disch := first | omega | simp (decide := true) only [helpb11]) only [helpb17, ↓brun_b, envOf, reduceIte, Nat.reduceEqDiff, Nat.reduceAdd, Nat.reduceSub, Nat.reduceMul, Nat.reduceBEq, Nat.reduceLeDiff, Nat.reduceLT, Int.reduceToNat, rho, hG]
  refine OpSem.callw [1, 2] cal.f59 (got_calls base got ts.length (trow ts)) rfl rfl (by simp -dsimp (decide := true) (disch := first | omega | simp (decide := true) only [helpb11]) only [helpb18, ↓brun_b, envOf, reduceIte, Nat.reduceEqDiff, Nat.reduceAdd, Nat.reduceSub, Nat.reduceMul, Nat.reduceBEq, Nat.reduceLeDiff, Nat.reduceLT, Int.reduceToNat, frz1, rho, ↓reduceIte]) rfl (by simp -dsimp (decide := true) (disch := first | omega | simp (decide := true) only [helpb11]) only [helpb18, ↓brun_b, envOf, reduceIte, Nat.reduceEqDiff, Nat.reduceAdd, Nat.reduceSub, Nat.reduceMul, Nat.reduceBEq, Nat.reduceLeDiff, Nat.reduceLT, Int.reduceToNat, frz1, rho, ↓reduceIte]) (by simp -dsimp (decide := true) (disch := first | omega | simp (decide := true) only [helpb11]) only [helpb19, ↓brun_b, envOf, reduceIte, Nat.reduceEqDiff, Nat.reduceAdd, Nat.reduceSub, Nat.reduceMul, Nat.reduceBEq, Nat.reduceLeDiff, Nat.reduceLT, Int.reduceToNat]) ?_
  simp -dsimp (decide := true) (disch := first | omega | simp (decide := true) only [helpb11]) only [helpb20, ↓brun_b, envOf, reduceIte, Nat.reduceEqDiff, Nat.reduceAdd, Nat.reduceSub, Nat.reduceMul, Nat.reduceBEq, Nat.reduceLeDiff, Nat.reduceLT, Int.reduceToNat, rho, hG]
  refine OpSem.callq cal.f123 (plainK_calls mi mn pi pn got) rfl rfl rfl (by simp only [bflat_a, helpb14]) (by simp only [bflat_a, helpb14]) (by simp -dsimp (decide := true) (disch := first | omega | simp (decide := true) only [helpb11]) only [helpb19, ↓brun_b, envOf, reduceIte, Nat.reduceEqDiff, Nat.reduceAdd, Nat.reduceSub, Nat.reduceMul, Nat.reduceBEq, Nat.reduceLeDiff, Nat.reduceLT, Int.reduceToNat]) ?_
  simp -dsimp (decide := true) (disch := first | omega | simp (decide := true) only [helpb11]) only [helpb17, ↓brun_b, envOf, reduceIte, Nat.reduceEqDiff, Nat.reduceAdd, Nat.reduceSub, Nat.reduceMul, Nat.reduceBEq, Nat.reduceLeDiff, Nat.reduceLT, Int.reduceToNat, rho, hG]
  refine hf _ (Sem.go (k := 1000) ?_)
  simp (decide := true) only [back_mk, backL_in, backL_row, backL_none, backL_nil, Nat.zero_add, Nat.reduceAdd]
  simp -dsimp (decide := true) (disch := first | omega | simp (decide := true) only [helpb11]) only [helpb17, ↓brun_b, envOf, reduceIte, Nat.reduceEqDiff, Nat.reduceAdd, Nat.reduceSub, Nat.reduceMul, Nat.reduceBEq, Nat.reduceLeDiff, Nat.reduceLT, Int.reduceToNat, rho]
  refine SQ.runL (rs := [.cell 2 151]) [0, 1, 2] _ _ rfl (And.intro rfl rfl) (by decide) rfl rfl ?_ ?_
  · simp -dsimp (decide := true) (disch := first | omega | simp (decide := true) only [helpb11]) only [helpb21, ↓brun_b, envOf, reduceIte, Nat.reduceEqDiff, Nat.reduceAdd, Nat.reduceSub, Nat.reduceMul, Nat.reduceBEq, Nat.reduceLeDiff, Nat.reduceLT, Int.reduceToNat, rho, frz1, ↓reduceIte]
  · simp -dsimp (decide := true) (disch := first | omega | simp (decide := true) only [helpb11]) only [helpb21, ↓brun_b, envOf, reduceIte, Nat.reduceEqDiff, Nat.reduceAdd, Nat.reduceSub, Nat.reduceMul, Nat.reduceBEq, Nat.reduceLeDiff, Nat.reduceLT, Int.reduceToNat, rho, frz1, ↓reduceIte]
def helpb22 :=
  (And.intro (And.intro (And.intro (And.intro helpc10 helpc1) (And.intro helpc11 helpc3)) (And.intro (And.intro helpc4 helpc9) (And.intro helpc6 (And.intro helpc12 @EC.set_mine)))) (And.intro (And.intro (And.intro @EC.set_up @EC.set_w) (And.intro @fh_flat @fk_flat)) (And.intro (And.intro @tab.f204x0 @tab.f204x1) (And.intro @tab.f204x3 (And.intro @tab.f204x6 @trow_len)))))
def helpb23 :=
  (And.intro (And.intro (And.intro (And.intro helpc10 helpc1) (And.intro helpc11 (And.intro helpc3 helpc4))) (And.intro (And.intro helpc9 (And.intro helpc6 helpc12)) (And.intro @EC.set_mine (And.intro @EC.set_up @EC.set_w)))) (And.intro (And.intro (And.intro @bwk_a (And.intro @eq_self.{1} @fh_flat)) (And.intro @fk_flat (And.intro @forall_const.{1} @implies_true.{0}))) (And.intro (And.intro @implies_true.{1} (And.intro @tab.f204x0 @tab.f204x1)) (And.intro @tab.f204x3 (And.intro @tab.f204x6 @trow_len)))))
def helpb24 :=
  (And.intro (And.intro helpc4 (And.intro helpc6 helpc12)) (And.intro (And.intro @tab.f204x0 @tab.f204x1) (And.intro @tab.f204x3 @tab.f204x6)))
def helpb25 :=
  (And.intro (And.intro (And.intro (And.intro helpc10 helpc1) (And.intro helpc11 helpc3)) (And.intro (And.intro helpc4 helpc9) (And.intro helpc6 (And.intro helpc12 @EC.set_mine)))) (And.intro (And.intro (And.intro @EC.set_up @EC.set_w) (And.intro @build204f (And.intro @fh_flat @fk_flat))) (And.intro (And.intro @tab.f204x0 @tab.f204x1) (And.intro @tab.f204x3 (And.intro @tab.f204x6 @trow_len)))))
theorem hnew_calls (id : I16) :
    SCall Try.prog 92 [.agg id.c] []
      fun r L => r = .ret (.ptr 0 0 0) ∧ L = [some (.row ⟨39, 1, true, 204, fun _ => EC.c ⟨id, .v (.bool false), .v (.bool false), .v (.int .i64 0), .v (.int .i64 0), .v (.int .i64 0), .v (.int .i64 0), I16.zero, .ptr 1 0 0⟩⟩), some (.row ⟨3, 1, true, 197, fun _ => [.v (.int .i64 1), .slc 2 0 0, .v (.int .i64 0)]⟩), some (.row ⟨1, 0, true, 35, trow []⟩)] := by
  refine SCall.mk (fn := Try.f92) (by kernel_rfl) rfl (Nat.le_of_ble_eq_true (by kernel_rfl)) ?_
  refine Sem.go (k := 1000) ?_
  simp -dsimp (decide := true) (disch := first | omega | simp (decide := true) only [helpb11]) only [helpb22, ↓brun_b, envOf, reduceIte, Nat.reduceEqDiff, Nat.reduceAdd, Nat.reduceSub, Nat.reduceMul, Nat.reduceBEq, Nat.reduceLeDiff, Nat.reduceLT, Int.reduceToNat, rho]
  refine Sem.draw' (by kernel_rfl) (.one 0 (.alt 1 (.one 2 (.alt 3 (.one 4 .done) .non)) .non)) [] (by kernel_rfl) (fun G ff hG hf => ?_)
  simp (decide := true) only [helpb13, Nat.reduceAdd] at hG ⊢
  simp -dsimp (decide := true) (disch := first | omega | simp (decide := true) only [helpb11]) only [helpb22, ↓brun_b, envOf, reduceIte, Nat.reduceEqDiff, Nat.reduceAdd, Nat.reduceSub, Nat.reduceMul, Nat.reduceBEq, Nat.reduceLeDiff, Nat.reduceLT, Int.reduceToNat, rho, hG]
  refine OpSem.callw [] cal.f48 (new_win) rfl rfl (by simp -dsimp (decide := true) (disch := first | omega | simp (decide := true) only [helpb11]) only [helpb23, ↓brun_b, envOf, reduceIte, Nat.reduceEqDiff, Nat.reduceAdd, Nat.reduceSub, Nat.reduceMul, Nat.reduceBEq, Nat.reduceLeDiff, Nat.reduceLT, Int.reduceToNat, rho, frz1, ↓reduceIte]) rfl (by simp -dsimp (decide := true) (disch := first | omega | simp (decide := true) only [helpb11]) only [helpb23, ↓brun_b, envOf, reduceIte, Nat.reduceEqDiff, Nat.reduceAdd, Nat.reduceSub, Nat.reduceMul, Nat.reduceBEq, Nat.reduceLeDiff, Nat.reduceLT, Int.reduceToNat, rho, frz1, ↓reduceIte]) (by simp -dsimp (decide := true) (disch := first | omega | simp (decide := true) only [helpb11]) only [helpb24, ↓brun_b, envOf, reduceIte, Nat.reduceEqDiff, Nat.reduceAdd, Nat.reduceSub, Nat.reduceMul, Nat.reduceBEq, Nat.reduceLeDiff, Nat.reduceLT, Int.reduceToNat]) ?_
  simp -dsimp (decide := true) (disch := first | omega | simp (decide := true) only [helpb11]) only [helpb25, ↓brun_b, envOf, reduceIte, Nat.reduceEqDiff, Nat.reduceAdd, Nat.reduceSub, Nat.reduceMul, Nat.reduceBEq, Nat.reduceLeDiff, Nat.reduceLT, Int.reduceToNat, rho, hG]
  refine hf _ ?_
  simp (decide := true) only [back_mk, backL_in, backL_row, backL_none, backL_nil, Nat.zero_add, Nat.reduceAdd]
  refine Lent.sem (Lent.ghostB 1 1 1 35 rfl rfl) (Sem.go (k := 1000) ?_)
  simp -dsimp (decide := true) (disch := first | omega | simp (decide := true) only [helpb11]) only [helpb22, ↓brun_b, envOf, reduceIte, Nat.reduceEqDiff, Nat.reduceAdd, Nat.reduceSub, Nat.reduceMul, Nat.reduceBEq, Nat.reduceLeDiff, Nat.reduceLT, Int.reduceToNat, rho]
  refine SQ.runL (rs := [.tmp 2]) [2, 1, 3] _ _ rfl (And.intro rfl rfl) (by decide) rfl rfl ?_ ?_
  · simp -dsimp (decide := true) (disch := first | omega | simp (decide := true) only [helpb11]) only [helpb23, ↓brun_b, envOf, reduceIte, Nat.reduceEqDiff, Nat.reduceAdd, Nat.reduceSub, Nat.reduceMul, Nat.reduceBEq, Nat.reduceLeDiff, Nat.reduceLT, Int.reduceToNat, rho, frz1, ↓reduceIte]
  · simp -dsimp (decide := true) (disch := first | omega | simp (decide := true) only [helpb11]) only [helpb23, ↓brun_b, envOf, reduceIte, Nat.reduceEqDiff, Nat.reduceAdd, Nat.reduceSub, Nat.reduceMul, Nat.reduceBEq, Nat.reduceLeDiff, Nat.reduceLT, Int.reduceToNat, rho, frz1, ↓reduceIte]
end Go.Proofs
namespace Go.Proofs
open Go Go.SL
set_option maxRecDepth 100000
theorem bs124 (N : Nat) (f : FC) (h : f.c.all SV.one = true) : sBuildSlice Try.prog N 124 1 [(0, .agg f.c)] = some ⟨.slc N 0 1, ⟨none, some (.row ⟨95, 1, true, 151, fun e => (f.c.drop (e * 95)).take 95⟩)⟩, True⟩ :=
  buildSlice_one tab.u124 tab.s151 tab.z151 (by decide) rfl (by decide) f.c _ rfl (by rw [FC.c_length]) h
theorem one124 (f : FC) (e : Nat) (he : e < 1) {fz : Nat → Option SB} {ρ : Nat → Nat} (h : SV.flatL f.c = true) : EntL fz ρ f.c ((f.c.drop (e * 95)).take 95) := by
  obtain rfl : e = 0 := by omega
  rw [Nat.zero_mul, List.drop_zero, List.take_of_length_le (by rw [FC.c_length]; exact Nat.le_refl _)]
  exact EntL.self h
def helpb26 :=
  (And.intro (And.intro (And.intro (And.intro helpc10 (And.intro helpc1 helpc11)) (And.intro (And.intro helpc3 helpc4) (And.intro helpc9 helpc5))) (And.intro (And.intro (And.intro helpc6 helpc12) (And.intro @EC.set_mine @EC.set_up)) (And.intro (And.intro @EC.set_w @fh_flat) (And.intro @fk_flat @tab.a121)))) (And.intro (And.intro (And.intro @tab.a124 (And.intro @tab.f151x0 @tab.f151x3)) (And.intro (And.intro @tab.f151x5 @tab.f151x6) (And.intro @tab.f151x7 @tab.f204x0))) (And.intro (And.intro (And.intro @tab.f204x1 @tab.f204x3) (And.intro @tab.f204x6 @tab.s121)) (And.intro (And.intro @tab.s124 @tab.u121) (And.intro @tab.u124 @trow_len)))))
def helpb27 :=
  (And.intro (And.intro (And.intro (And.intro (And.intro helpc10 helpc1) (And.intro helpc11 helpc3)) (And.intro (And.intro helpc4 helpc9) (And.intro helpc5 helpc6))) (And.intro (And.intro (And.intro helpc12 @EC.set_mine) (And.intro @EC.set_up @EC.set_w)) (And.intro (And.intro @bwk_a @eq_self.{1}) (And.intro @fh_flat (And.intro @fk_flat @forall_const.{1}))))) (And.intro (And.intro (And.intro (And.intro @implies_true.{0} @implies_true.{1}) (And.intro @tab.a121 @tab.a124)) (And.intro (And.intro @tab.f151x0 @tab.f151x3) (And.intro @tab.f151x5 (And.intro @tab.f151x6 @tab.f151x7)))) (And.intro (And.intro (And.intro @tab.f204x0 @tab.f204x1) (And.intro @tab.f204x3 @tab.f204x6)) (And.intro (And.intro @tab.s121 @tab.s124) (And.intro @tab.u121 (And.intro @tab.u124 @trow_len))))))
def helpb28 :=
  (And.intro (And.intro (And.intro (And.intro helpc4 helpc5) (And.intro helpc6 helpc12)) (And.intro (And.intro @tab.a121 @tab.a124) (And.intro @tab.f151x0 (And.intro @tab.f151x3 @tab.f151x5)))) (And.intro (And.intro (And.intro @tab.f151x6 @tab.f151x7) (And.intro @tab.f204x0 (And.intro @tab.f204x1 @tab.f204x3))) (And.intro (And.intro @tab.f204x6 @tab.s121) (And.intro @tab.s124 (And.intro @tab.u121 @tab.u124)))))
def helpb29 :=
  (And.intro (And.intro (And.intro (And.intro helpc10 (And.intro helpc1 helpc11)) (And.intro (And.intro helpc3 helpc4) (And.intro helpc9 helpc5))) (And.intro (And.intro (And.intro helpc6 helpc12) (And.intro @EC.set_mine @EC.set_up)) (And.intro (And.intro @EC.set_w @bs124) (And.intro @fh_flat @fk_flat)))) (And.intro (And.intro (And.intro (And.intro @tab.a121 @tab.a124) (And.intro @tab.f151x0 @tab.f151x3)) (And.intro (And.intro @tab.f151x5 @tab.f151x6) (And.intro @tab.f151x7 @tab.f204x0))) (And.intro (And.intro (And.intro @tab.f204x1 @tab.f204x3) (And.intro @tab.f204x6 @tab.s121)) (And.intro (And.intro @tab.s124 @tab.u121) (And.intro @tab.u124 @trow_len)))))
def helpb30 :=
  (And.intro (And.intro (And.intro (And.intro helpc10 (And.intro helpc1 helpc11)) (And.intro (And.intro helpc3 helpc4) (And.intro helpc9 helpc5))) (And.intro (And.intro (And.intro helpc6 helpc12) (And.intro @EC.set_mine @EC.set_up)) (And.intro (And.intro @EC.set_w @build204r) (And.intro @fh_flat @fk_flat)))) (And.intro (And.intro (And.intro (And.intro @tab.a121 @tab.a124) (And.intro @tab.f151x0 @tab.f151x3)) (And.intro (And.intro @tab.f151x5 @tab.f151x6) (And.intro @tab.f151x7 @tab.f204x0))) (And.intro (And.intro (And.intro @tab.f204x1 @tab.f204x3) (And.intro @tab.f204x6 @tab.s121)) (And.intro (And.intro @tab.s124 @tab.u121) (And.intro @tab.u124 @trow_len)))))
theorem rise_calls (id pid : I16) (op : Bool) (mi mn pi pn mi' mn' base got : Int) (ts : List (List UInt8)) :
    SCall Try.prog 96 [.ptr 0 0 0, .agg [.v (.int .i64 mi), .v (.int .i64 mn)]] [some (.row ⟨39, 1, true, 204, fun _ => EC.c ⟨id, .v (.bool false), .v (.bool op), .v (.int .i64 mi'), .v (.int .i64 mn'), .v (.int .i64 pi), .v (.int .i64 pn), pid, .ptr 1 0 0⟩⟩), some (.row ⟨3, 1, false, 197, fun _ => [.v (.int .i64 base), .slc 2 0 ts.length, .v (.int .i64 got)]⟩), some (.row ⟨1, ts.length, false, 35, trow ts⟩)]
      fun r L => r = .ret (.slc 5 0 1) ∧ L = [some (.row ⟨39, 1, true, 204, fun _ => EC.c ⟨id, .v (.bool true), .v (.bool false), .v (.int .i64 mi), .v (.int .i64 mn), .v (.int .i64 0), .v (.int .i64 0), I16.zero, .ptr 3 0 0⟩⟩), none, none, some (.row ⟨3, 1, true, 197, fun _ => [.v (.int .i64 1), .slc 4 0 0, .v (.int .i64 0)]⟩), some (.row ⟨1, 0, true, 35, trow []⟩), some (.row ⟨95, 1, true, 151, fun _ => FC.c { zF with kind := .v (.int .i64 1), fi := .v (.int .i64 mi), fn := .v (.int .i64 mn), ti := .v (.int .i64 0), tn := .v (.int .i64 0), a := id }⟩)] := by
  refine SCall.mk (fn := Try.f96) (by kernel_rfl) rfl (Nat.le_of_ble_eq_true (by kernel_rfl)) ?_
  refine Sem.go (k := 1000) ?_
  simp -dsimp (decide := true) (disch := first | omega | simp (decide := true) only [helpb11]) only [helpb26, ↓brun_b, envOf, reduceIte, Nat.reduceEqDiff, Nat.reduceAdd, Nat.reduceSub, Nat.reduceMul, Nat.reduceBEq, Nat.reduceLeDiff, Nat.reduceLT, Int.reduceToNat, rho]
  refine Sem.draw' (by kernel_rfl) (.one 0 (.one 1 (.one 2 (.one 3 (.one 5 (.alt 4 (.alt 6 (.one 7 (.one 8 (.alt 9 .done .non))) .non) (.alt 6 (.alt 4 (.one 7 (.one 8 (.alt 9 .done .non))) .non) .non))))))) [0] (by kernel_rfl) (fun G ff hG hf => ?_)
  simp (decide := true) only [helpb13, Nat.reduceAdd] at hG ⊢
  have hf2 := fun hc s' l wk => hf s' (Sem.weaken (s' := ⟨25, 3, [(0, .ptr 0 0 0)], [some (.row ⟨39, 1, true, 204, fun _ => EC.c ⟨id, .v (.bool true), .v (.bool false), .v (.int .i64 mi), .v (.int .i64 mn), .v (.int .i64 0), .v (.int .i64 0), I16.zero, .ptr 3 0 0⟩⟩), none, none, some (.row ⟨3, 1, true, 197, fun _ => [.v (.int .i64 1), .v (.slice none 0 0), .v (.int .i64 0)]⟩)]⟩) l wk hc)
  replace hf2 := hf2 (by
    refine Lent.sem (Lent.ghostB 3 1 1 35 rfl rfl) (Sem.go (k := 1000) ?_)
    simp -dsimp (decide := true) (disch := first | omega | simp (decide := true) only [helpb11]) only [helpb26, ↓brun_b, envOf, reduceIte, Nat.reduceEqDiff, Nat.reduceAdd, Nat.reduceSub, Nat.reduceMul, Nat.reduceBEq, Nat.reduceLeDiff, Nat.reduceLT, Int.reduceToNat, rho]
    refine SemOps.callw [0, 3, 4] cal.f136 (hello_calls id I16.zero true false mi mn 0 0 1 0 []) rfl rfl rfl (by simp -dsimp (decide := true) (disch := first | omega | simp (decide := true) only [helpb11]) only [helpb27, ↓brun_b, envOf, reduceIte, Nat.reduceEqDiff, Nat.reduceAdd, Nat.reduceSub, Nat.reduceMul, Nat.reduceBEq, Nat.reduceLeDiff, Nat.reduceLT, Int.reduceToNat, rho, frz1, ↓reduceIte]) rfl (by simp -dsimp (decide := true) (disch := first | omega | simp (decide := true) only [helpb11]) only [helpb27, ↓brun_b, envOf, reduceIte, Nat.reduceEqDiff, Nat.reduceAdd, Nat.reduceSub, Nat.reduceMul, Nat.reduceBEq, Nat.reduceLeDiff, Nat.reduceLT, Int.reduceToNat, rho, frz1, ↓reduceIte]) (by simp -dsimp (decide := true) (disch := first | omega | simp (decide := true) only [helpb11]) only [helpb28, ↓brun_b, envOf, reduceIte, Nat.reduceEqDiff, Nat.reduceAdd, Nat.reduceSub, Nat.reduceMul, Nat.reduceBEq, Nat.reduceLeDiff, Nat.reduceLT, Int.reduceToNat]) ?_
    refine SemOps.go (k := 1000) ?_
    simp -dsimp (decide := true) (disch := first | omega | simp (decide := true) only [helpb11]) only [helpb29, ↓brun_b, envOf, reduceIte, Nat.reduceEqDiff, Nat.reduceAdd, Nat.reduceSub, Nat.reduceMul, Nat.reduceBEq, Nat.reduceLeDiff, Nat.reduceLT, Int.reduceToNat, rho]
    refine SQ.runL (rs := [.tmp 4]) [0, 1, 2, 3, 4, 5] _ _ rfl (And.intro rfl rfl) (by decide) rfl rfl ?_ ?_
    · simp -dsimp (decide := true) (disch := first | omega | simp (decide := true) only [helpb11]) only [helpb27, ↓brun_b, envOf, reduceIte, Nat.reduceEqDiff, Nat.reduceAdd, Nat.reduceSub, Nat.reduceMul, Nat.reduceBEq, Nat.reduceLeDiff, Nat.reduceLT, Int.reduceToNat, rho, frz1, ↓reduceIte]
      exact fun e he => one124 _ e he (fh_flat _ _ _ _ _)
    · simp -dsimp (decide := true) (disch := first | omega | simp (decide := true) only [helpb11]) only [helpb27, ↓brun_b, envOf, reduceIte, Nat.reduceEqDiff, Nat.reduceAdd, Nat.reduceSub, Nat.reduceMul, Nat.reduceBEq, Nat.reduceLeDiff, Nat.reduceLT, Int.reduceToNat, rho, frz1, ↓reduceIte])
  simp -dsimp (decide := true) (disch := first | omega | simp (decide := true) only [helpb11]) only [helpb26, ↓brun_b, envOf, reduceIte, Nat.reduceEqDiff, Nat.reduceAdd, Nat.reduceSub, Nat.reduceMul, Nat.reduceBEq, Nat.reduceLeDiff, Nat.reduceLT, Int.reduceToNat, rho, hG]
  refine And.intro ?_ ?_
  · refine OpSem.callw [] cal.f48 (new_win) rfl rfl (by simp -dsimp (decide := true) (disch := first | omega | simp (decide := true) only [helpb11]) only [helpb27, ↓brun_b, envOf, reduceIte, Nat.reduceEqDiff, Nat.reduceAdd, Nat.reduceSub, Nat.reduceMul, Nat.reduceBEq, Nat.reduceLeDiff, Nat.reduceLT, Int.reduceToNat, rho, frz1, ↓reduceIte]) rfl (by simp -dsimp (decide := true) (disch := first | omega | simp (decide := true) only [helpb11]) only [helpb27, ↓brun_b, envOf, reduceIte, Nat.reduceEqDiff, Nat.reduceAdd, Nat.reduceSub, Nat.reduceMul, Nat.reduceBEq, Nat.reduceLeDiff, Nat.reduceLT, Int.reduceToNat, rho, frz1, ↓reduceIte]) (by simp -dsimp (decide := true) (disch := first | omega | simp (decide := true) only [helpb11]) only [helpb28, ↓brun_b, envOf, reduceIte, Nat.reduceEqDiff, Nat.reduceAdd, Nat.reduceSub, Nat.reduceMul, Nat.reduceBEq, Nat.reduceLeDiff, Nat.reduceLT, Int.reduceToNat]) ?_
    simp -dsimp (decide := true) (disch := first | omega | simp (decide := true) only [helpb11]) only [helpb30, ↓brun_b, envOf, reduceIte, Nat.reduceEqDiff, Nat.reduceAdd, Nat.reduceSub, Nat.reduceMul, Nat.reduceBEq, Nat.reduceLeDiff, Nat.reduceLT, Int.reduceToNat, rho, hG]
    refine hf2 _ [0, 1, 2, 4] ?_
    simp (decide := true) only [back_mk, backL_in, backL_row, backL_none, backL_nil, Nat.zero_add, Nat.reduceAdd]
    (refine Wk.ofC ?_; simp -dsimp (decide := true) (disch := first | omega | simp (decide := true) only [helpb11]) only [helpb27, ↓brun_b, envOf, reduceIte, Nat.reduceEqDiff, Nat.reduceAdd, Nat.reduceSub, Nat.reduceMul, Nat.reduceBEq, Nat.reduceLeDiff, Nat.reduceLT, Int.reduceToNat, rho, frz1, ↓reduceIte])
  · refine OpSem.callw [] cal.f48 (new_win) rfl rfl (by simp -dsimp (decide := true) (disch := first | omega | simp (decide := true) only [helpb11]) only [helpb27, ↓brun_b, envOf, reduceIte, Nat.reduceEqDiff, Nat.reduceAdd, Nat.reduceSub, Nat.reduceMul, Nat.reduceBEq, Nat.reduceLeDiff, Nat.reduceLT, Int.reduceToNat, rho, frz1, ↓reduceIte]) rfl (by simp -dsimp (decide := true) (disch := first | omega | simp (decide := true) only [helpb11]) only [helpb27, ↓brun_b, envOf, reduceIte, Nat.reduceEqDiff, Nat.reduceAdd, Nat.reduceSub, Nat.reduceMul, Nat.reduceBEq, Nat.reduceLeDiff, Nat.reduceLT, Int.reduceToNat, rho, frz1, ↓reduceIte]) (by simp -dsimp (decide := true) (disch := first | omega | simp (decide := true) only [helpb11]) only [helpb28, ↓brun_b, envOf, reduceIte, Nat.reduceEqDiff, Nat.reduceAdd, Nat.reduceSub, Nat.reduceMul, Nat.reduceBEq, Nat.reduceLeDiff, Nat.reduceLT, Int.reduceToNat]) ?_
    simp -dsimp (decide := true) (disch := first | omega | simp (decide := true) only [helpb11]) only [helpb30, ↓brun_b, envOf, reduceIte, Nat.reduceEqDiff, Nat.reduceAdd, Nat.reduceSub, Nat.reduceMul, Nat.reduceBEq, Nat.reduceLeDiff, Nat.reduceLT, Int.reduceToNat, rho, hG]
    refine hf2 _ [0, 1, 2, 4] ?_
    simp (decide := true) only [back_mk, backL_in, backL_row, backL_none, backL_nil, Nat.zero_add, Nat.reduceAdd]
    (refine Wk.ofC ?_; simp -dsimp (decide := true) (disch := first | omega | simp (decide := true) only [helpb11]) only [helpb27, ↓brun_b, envOf, reduceIte, Nat.reduceEqDiff, Nat.reduceAdd, Nat.reduceSub, Nat.reduceMul, Nat.reduceBEq, Nat.reduceLeDiff, Nat.reduceLT, Int.reduceToNat, rho, frz1, ↓reduceIte])
end Go.Proofs
namespace Go.Proofs
open Go Go.SL
set_option maxRecDepth 100000
theorem al162 (N : Nat) : sAlloc Try.prog N 162 = some ⟨.ptr N 0 0, ⟨none, some (.row ⟨5, 1, true, 162, fun _ => [.v (.bool false), .v (.bool false), .v (.slice none 0 0), .v (.bool false), .v (.slice none 0 0)]⟩)⟩, True⟩ := sAlloc_eq N 162 _ tab.z162 rfl
theorem al135 (N : Nat) : sAlloc Try.prog N 135 = some ⟨.ptr N 0 0, ⟨none, some (.row ⟨2, 1, true, 135, fun _ => [.v (.int .i64 0), .v (.int .i64 0)]⟩)⟩, True⟩ := sAlloc_eq N 135 _ tab.z135 rfl
theorem build162z : sBuild Try.prog 162 [] = some ⟨.agg [.v (.bool false), .v (.bool false), .v (.slice none 0 0), .v (.bool false), .v (.slice none 0 0)], {}, True⟩ := by
  rw [sBuild_eq, tab.z162, tab.l162]; rfl
theorem build151z : sBuild Try.prog 151 [] = some ⟨.agg zF.c, {}, True⟩ := by
  rw [bl151]; rfl
theorem build23z : sBuild Try.prog 23 [] = some ⟨.agg I16.zero.c, {}, True⟩ := by
  rw [sBuild_eq, tab.z23, tab.l23]; rfl
theorem sp05 (a b c d e : SV) : spart true [a, b, c, d, e] 0 5 = .agg [a, b, c, d, e] := Eq.trans rfl rfl
def helpc13 :=
  (And.intro (And.intro @al135 (And.intro @al162 @build135z)) (And.intro (And.intro @build151z @build162z) (And.intro @build23z @sp05)))
def helpc14 :=
  (And.intro (And.intro @tab.a162 (And.intro @tab.f162x0 @tab.f162x1)) (And.intro (And.intro @tab.f162x2 @tab.f162x3) (And.intro @tab.f162x4 @tab.s162)))
def helpb31 :=
  (And.intro (And.intro (And.intro (And.intro (And.intro helpc10 helpc1) (And.intro helpc11 (And.intro helpc3 helpc13))) (And.intro (And.intro helpc4 helpc9) (And.intro helpc5 (And.intro helpc14 helpc6)))) (And.intro (And.intro (And.intro helpc12 helpc7) (And.intro helpc8 (And.intro @EC.set_mine @EC.set_up))) (And.intro (And.intro @EC.set_w @fh_flat) (And.intro @fk_flat (And.intro @tab.a121 @tab.a124))))) (And.intro (And.intro (And.intro (And.intro @tab.a214 @tab.f151x0) (And.intro @tab.f151x3 (And.intro @tab.f151x5 @tab.f151x6))) (And.intro (And.intro @tab.f151x7 @tab.f204x0) (And.intro @tab.f204x1 (And.intro @tab.f204x3 @tab.f204x6)))) (And.intro (And.intro (And.intro @tab.f214x0 @tab.f214x1) (And.intro @tab.f214x2 (And.intro @tab.s121 @tab.s124))) (And.intro (And.intro @tab.s214 @tab.u121) (And.intro @tab.u124 (And.intro @tab.u214 @trow_len))))))
def helpb32 :=
  (And.intro (And.intro (And.intro (And.intro (And.intro helpc10 helpc1) (And.intro helpc11 (And.intro helpc3 helpc13))) (And.intro (And.intro helpc4 (And.intro helpc9 helpc5)) (And.intro helpc14 (And.intro helpc6 helpc12)))) (And.intro (And.intro (And.intro helpc7 helpc8) (And.intro @EC.set_mine (And.intro @EC.set_up @EC.set_w))) (And.intro (And.intro @bwk_a (And.intro @eq_self.{1} @fh_flat)) (And.intro @fk_flat (And.intro @forall_const.{1} @implies_true.{0}))))) (And.intro (And.intro (And.intro (And.intro @implies_true.{1} @tab.a121) (And.intro @tab.a124 (And.intro @tab.a214 @tab.f151x0))) (And.intro (And.intro @tab.f151x3 (And.intro @tab.f151x5 @tab.f151x6)) (And.intro @tab.f151x7 (And.intro @tab.f204x0 @tab.f204x1)))) (And.intro (And.intro (And.intro @tab.f204x3 (And.intro @tab.f204x6 @tab.f214x0)) (And.intro @tab.f214x1 (And.intro @tab.f214x2 @tab.s121))) (And.intro (And.intro @tab.s124 (And.intro @tab.s214 @tab.u121)) (And.intro @tab.u124 (And.intro @tab.u214 @trow_len))))))
theorem hearDown_calls (id pid : I16) (op : Bool) (mi mn pi pn base got : Int) (ts : List (List UInt8)) (cs : List SV) (a b : Int) (h1 : cs.length = 95) (h2 : cs.all SV.one = true) :
    SCall Try.prog 106 [.ptr 0 0 0, .agg cs, .agg [.v (.int .i64 a), .v (.int .i64 b)]] [some (.row ⟨39, 1, false, 204, fun _ => EC.c ⟨id, .v (.bool false), .v (.bool op), .v (.int .i64 mi), .v (.int .i64 mn), .v (.int .i64 pi), .v (.int .i64 pn), pid, .ptr 1 0 0⟩⟩), some (.row ⟨3, 1, false, 197, fun _ => [.v (.int .i64 base), .slc 2 0 ts.length, .v (.int .i64 got)]⟩), some (.row ⟨1, ts.length, false, 35, trow ts⟩)]
      fun r L => r = .ret (.agg [.v (.bool false), .v (.bool false), .v (.slice none 0 0), .v (.bool false), .v (.slice none 0 0)]) ∧ L = [none, none, none] := by
  refine SCall.mk (fn := Try.f106) (by kernel_rfl) rfl (Nat.le_of_ble_eq_true (by kernel_rfl)) ?_
  refine Sem.go (k := 1000) ?_
  simp -dsimp (decide := true) (disch := first | omega | simp (decide := true) only [helpb11]) only [helpb31, ↓brun_b, envOf, reduceIte, Nat.reduceEqDiff, Nat.reduceAdd, Nat.reduceSub, Nat.reduceMul, Nat.reduceBEq, Nat.reduceLeDiff, Nat.reduceLT, Int.reduceToNat, rho, h1, h2]
  refine SQ.runL (rs := [.cell 6 162]) [0, 1, 2] _ _ rfl (And.intro rfl rfl) (by decide) rfl rfl ?_ ?_
  · simp -dsimp (decide := true) (disch := first | omega | simp (decide := true) only [helpb11]) only [helpb32, ↓brun_b, envOf, reduceIte, Nat.reduceEqDiff, Nat.reduceAdd, Nat.reduceSub, Nat.reduceMul, Nat.reduceBEq, Nat.reduceLeDiff, Nat.reduceLT, Int.reduceToNat, rho, frz1, ↓reduceIte]
  · simp -dsimp (decide := true) (disch := first | omega | simp (decide := true) only [helpb11]) only [helpb32, ↓brun_b, envOf, reduceIte, Nat.reduceEqDiff, Nat.reduceAdd, Nat.reduceSub, Nat.reduceMul, Nat.reduceBEq, Nat.reduceLeDiff, Nat.reduceLT, Int.reduceToNat, rho, frz1, ↓reduceIte]
def helpb33 :=
  (And.intro (And.intro (And.intro (And.intro helpc10 (And.intro helpc1 helpc11)) (And.intro (And.intro helpc3 helpc13) (And.intro helpc4 helpc9))) (And.intro (And.intro helpc5 (And.intro helpc6 helpc12)) (And.intro (And.intro helpc7 @EC.set_mine) (And.intro @EC.set_up @EC.set_w)))) (And.intro (And.intro (And.intro @fh_flat (And.intro @fk_flat @tab.a121)) (And.intro (And.intro @tab.f151x0 @tab.f151x3) (And.intro @tab.f151x5 @tab.f151x6))) (And.intro (And.intro (And.intro @tab.f151x7 @tab.f204x0) (And.intro @tab.f204x1 @tab.f204x3)) (And.intro (And.intro @tab.f204x6 @tab.s121) (And.intro @tab.u121 @trow_len)))))
def helpb34 :=
  (And.intro (And.intro (And.intro (And.intro (And.intro helpc10 helpc1) (And.intro helpc11 helpc3)) (And.intro (And.intro helpc13 helpc4) (And.intro helpc9 helpc5))) (And.intro (And.intro (And.intro helpc6 helpc12) (And.intro helpc7 @EC.set_mine)) (And.intro (And.intro @EC.set_up @EC.set_w) (And.intro @bwk_a (And.intro @eq_self.{1} @fh_flat))))) (And.intro (And.intro (And.intro (And.intro @fk_flat @forall_const.{1}) (And.intro @implies_true.{0} @implies_true.{1})) (And.intro (And.intro @tab.a121 @tab.f151x0) (And.intro @tab.f151x3 @tab.f151x5))) (And.intro (And.intro (And.intro @tab.f151x6 @tab.f151x7) (And.intro @tab.f204x0 @tab.f204x1)) (And.intro (And.intro @tab.f204x3 @tab.f204x6) (And.intro @tab.s121 (And.intro @tab.u121 @trow_len))))))
theorem sendDown_calls (id pid : I16) (up : Bool) (mi mn pi pn base got : Int) (ts : List (List UInt8)) (t : List UInt8) :
    SCall Try.prog 102 [.ptr 0 0 0, bsl t] [some (.row ⟨39, 1, false, 204, fun _ => EC.c ⟨id, .v (.bool up), .v (.bool false), .v (.int .i64 mi), .v (.int .i64 mn), .v (.int .i64 pi), .v (.int .i64 pn), pid, .ptr 1 0 0⟩⟩), some (.row ⟨3, 1, false, 197, fun _ => [.v (.int .i64 base), .slc 2 0 ts.length, .v (.int .i64 got)]⟩), some (.row ⟨1, ts.length, false, 35, trow ts⟩)]
      fun r L => r = .ret (.tup [.agg zF.c, .v (.int .i64 10)]) ∧ L = [none, none, none] := by
  refine SCall.mk (fn := Try.f102) (by kernel_rfl) rfl (Nat.le_of_ble_eq_true (by kernel_rfl)) ?_
  refine Sem.go (k := 1000) ?_
  simp -dsimp (decide := true) (disch := first | omega | simp (decide := true) only [helpb11]) only [helpb33, ↓brun_b, envOf, reduceIte, Nat.reduceEqDiff, Nat.reduceAdd, Nat.reduceSub, Nat.reduceMul, Nat.reduceBEq, Nat.reduceLeDiff, Nat.reduceLT, Int.reduceToNat, rho]
  refine SQ.runL (rs := [.cell 4 151, .tmp 5]) [0, 1, 2] _ _ rfl (And.intro rfl rfl) (by decide) rfl rfl ?_ ?_
  · simp -dsimp (decide := true) (disch := first | omega | simp (decide := true) only [helpb11]) only [helpb34, ↓brun_b, envOf, reduceIte, Nat.reduceEqDiff, Nat.reduceAdd, Nat.reduceSub, Nat.reduceMul, Nat.reduceBEq, Nat.reduceLeDiff, Nat.reduceLT, Int.reduceToNat, rho, frz1, ↓reduceIte]
  · simp -dsimp (decide := true) (disch := first | omega | simp (decide := true) only [helpb11]) only [helpb34, ↓brun_b, envOf, reduceIte, Nat.reduceEqDiff, Nat.reduceAdd, Nat.reduceSub, Nat.reduceMul, Nat.reduceBEq, Nat.reduceLeDiff, Nat.reduceLT, Int.reduceToNat, rho, frz1, ↓reduceIte]
def helpb35 :=
  (And.intro (And.intro (And.intro (And.intro (And.intro helpc10 helpc1) (And.intro helpc11 helpc3)) (And.intro (And.intro helpc13 helpc4) (And.intro helpc9 helpc5))) (And.intro (And.intro (And.intro helpc6 helpc12) (And.intro helpc7 @EC.set_mine)) (And.intro (And.intro @EC.set_up @EC.set_w) (And.intro @fh_flat (And.intro @fk_flat @tab.a121))))) (And.intro (And.intro (And.intro (And.intro @tab.a124 @tab.a44) (And.intro @tab.f151x0 @tab.f151x3)) (And.intro (And.intro @tab.f151x5 @tab.f151x6) (And.intro @tab.f151x7 (And.intro @tab.f204x0 @tab.f204x1)))) (And.intro (And.intro (And.intro @tab.f204x3 @tab.f204x6) (And.intro @tab.s121 @tab.s124)) (And.intro (And.intro @tab.s44 @tab.u121) (And.intro @tab.u124 (And.intro @tab.u44 @trow_len))))))
def helpb36 :=
  (And.intro (And.intro (And.intro (And.intro (And.intro helpc10 helpc1) (And.intro helpc11 (And.intro helpc3 helpc13))) (And.intro (And.intro helpc4 helpc9) (And.intro helpc5 (And.intro helpc6 helpc12)))) (And.intro (And.intro (And.intro helpc7 @EC.set_mine) (And.intro @EC.set_up (And.intro @EC.set_w @bwk_a))) (And.intro (And.intro @eq_self.{1} @fh_flat) (And.intro @fk_flat (And.intro @forall_const.{1} @implies_true.{0}))))) (And.intro (And.intro (And.intro (And.intro @implies_true.{1} @tab.a121) (And.intro @tab.a124 (And.intro @tab.a44 @tab.f151x0))) (And.intro (And.intro @tab.f151x3 @tab.f151x5) (And.intro @tab.f151x6 (And.intro @tab.f151x7 @tab.f204x0)))) (And.intro (And.intro (And.intro @tab.f204x1 @tab.f204x3) (And.intro @tab.f204x6 (And.intro @tab.s121 @tab.s124))) (And.intro (And.intro @tab.s44 @tab.u121) (And.intro @tab.u124 (And.intro @tab.u44 @trow_len))))))
theorem tickDown_calls (id pid : I16) (op : Bool) (mi mn pi pn base got : Int) (ts : List (List UInt8)) :
    SCall Try.prog 100 [.ptr 0 0 0] [some (.row ⟨39, 1, false, 204, fun _ => EC.c ⟨id, .v (.bool false), .v (.bool op), .v (.int .i64 mi), .v (.int .i64 mn), .v (.int .i64 pi), .v (.int .i64 pn), pid, .ptr 1 0 0⟩⟩), some (.row ⟨3, 1, false, 197, fun _ => [.v (.int .i64 base), .slc 2 0 ts.length, .v (.int .i64 got)]⟩), some (.row ⟨1, ts.length, false, 35, trow ts⟩)]
      fun r L => r = .ret (.v (.slice none 0 0)) ∧ L = [none, none, none] := by
  refine SCall.mk (fn := Try.f100) (by kernel_rfl) rfl (Nat.le_of_ble_eq_true (by kernel_rfl)) ?_
  refine Sem.go (k := 1000) ?_
  simp -dsimp (decide := true) (disch := first | omega | simp (decide := true) only [helpb11]) only [helpb35, ↓brun_b, envOf, reduceIte, Nat.reduceEqDiff, Nat.reduceAdd, Nat.reduceSub, Nat.reduceMul, Nat.reduceBEq, Nat.reduceLeDiff, Nat.reduceLT, Int.reduceToNat, rho]
  refine SQ.runL (rs := [.tmp 2]) [0, 1, 2] _ _ rfl (And.intro rfl rfl) (by decide) rfl rfl ?_ ?_
  · simp -dsimp (decide := true) (disch := first | omega | simp (decide := true) only [helpb11]) only [helpb36, ↓brun_b, envOf, reduceIte, Nat.reduceEqDiff, Nat.reduceAdd, Nat.reduceSub, Nat.reduceMul, Nat.reduceBEq, Nat.reduceLeDiff, Nat.reduceLT, Int.reduceToNat, rho, frz1, ↓reduceIte]
  · simp -dsimp (decide := true) (disch := first | omega | simp (decide := true) only [helpb11]) only [helpb36, ↓brun_b, envOf, reduceIte, Nat.reduceEqDiff, Nat.reduceAdd, Nat.reduceSub, Nat.reduceMul, Nat.reduceBEq, Nat.reduceLeDiff, Nat.reduceLT, Int.reduceToNat, rho, frz1, ↓reduceIte]
def helpb37 :=
  (And.intro (And.intro (And.intro (And.intro helpc10 helpc1) (And.intro helpc11 (And.intro helpc3 helpc13))) (And.intro (And.intro helpc4 (And.intro helpc9 helpc6)) (And.intro helpc12 (And.intro @EC.set_mine @EC.set_up)))) (And.intro (And.intro (And.intro @EC.set_w @fh_flat) (And.intro @fk_flat (And.intro @tab.a121 @tab.f204x0))) (And.intro (And.intro @tab.f204x1 (And.intro @tab.f204x3 @tab.f204x6)) (And.intro @tab.s121 (And.intro @tab.u121 @trow_len)))))
def helpb38 :=
  (And.intro (And.intro (And.intro (And.intro helpc10 (And.intro helpc1 helpc11)) (And.intro helpc3 (And.intro helpc13 helpc4))) (And.intro (And.intro helpc9 (And.intro helpc6 helpc12)) (And.intro (And.intro @EC.set_mine @EC.set_up) (And.intro @EC.set_w @bwk_a)))) (And.intro (And.intro (And.intro @eq_self.{1} (And.intro @fh_flat @fk_flat)) (And.intro (And.intro @forall_const.{1} @implies_true.{0}) (And.intro @implies_true.{1} @tab.a121))) (And.intro (And.intro @tab.f204x0 (And.intro @tab.f204x1 @tab.f204x3)) (And.intro (And.intro @tab.f204x6 @tab.s121) (And.intro @tab.u121 @trow_len)))))
theorem up_calls (id pid : I16) (up op : Bool) (mi mn pi pn base got : Int) (ts : List (List UInt8)) :
    SCall Try.prog 113 [.ptr 0 0 0] [some (.row ⟨39, 1, false, 204, fun _ => EC.c ⟨id, .v (.bool up), .v (.bool op), .v (.int .i64 mi), .v (.int .i64 mn), .v (.int .i64 pi), .v (.int .i64 pn), pid, .ptr 1 0 0⟩⟩), some (.row ⟨3, 1, false, 197, fun _ => [.v (.int .i64 base),   .slc 2 0 ts.length, .v (.int .i64 got)]⟩), some (.row ⟨1, ts.length, false, 35, trow ts⟩)]
      fun r L => r = .ret (.v (.bool up)) ∧ L = [none, none, none] := by
  refine SCall.mk (fn := Try.f113) (by kernel_rfl) rfl (Nat.le_of_ble_eq_true (by kernel_rfl)) ?_
  refine Sem.go (k := 1000) ?_
  simp -dsimp (decide := true) (disch := first | omega | simp (decide := true) only [helpb11]) only [helpb37, ↓brun_b, envOf, reduceIte, Nat.reduceEqDiff, Nat.reduceAdd, Nat.reduceSub, Nat.reduceMul, Nat.reduceBEq, Nat.reduceLeDiff, Nat.reduceLT, Int.reduceToNat, rho]
  refine SQ.runL (rs := [.tmp 2]) [0, 1, 2] _ _ rfl (And.intro rfl rfl) (by decide) rfl rfl ?_ ?_
  · simp -dsimp (decide := true) (disch := first | omega | simp (decide := true) only [helpb11]) only [helpb38, ↓brun_b, envOf, reduceIte, Nat.reduceEqDiff, Nat.reduceAdd, Nat.reduceSub, Nat.reduceMul, Nat.reduceBEq, Nat.reduceLeDiff, Nat.reduceLT, Int.reduceToNat, rho, frz1, ↓reduceIte]
  · simp -dsimp (decide := true) (disch := first | omega | simp (decide := true) only [helpb11]) only [helpb38, ↓brun_b, envOf, reduceIte, Nat.reduceEqDiff, Nat.reduceAdd, Nat.reduceSub, Nat.reduceMul, Nat.reduceBEq, Nat.reduceLeDiff, Nat.reduceLT, Int.reduceToNat, rho, frz1, ↓reduceIte]
def helpb39 :=
  (And.intro (And.intro (And.intro helpc4 helpc6) (And.intro helpc12 (And.intro @tab.a121 @tab.f204x0))) (And.intro (And.intro @tab.f204x1 @tab.f204x3) (And.intro @tab.f204x6 (And.intro @tab.s121 @tab.u121))))
def helpb40 :=
  (And.intro (And.intro (And.intro (And.intro helpc10 helpc1) (And.intro helpc11 (And.intro helpc3 helpc13))) (And.intro (And.intro helpc4 (And.intro helpc9 helpc6)) (And.intro helpc12 (And.intro @EC.set_mine @EC.set_up)))) (And.intro (And.intro (And.intro @EC.set_w (And.intro @build204f @fh_flat)) (And.intro @fk_flat (And.intro @tab.a121 @tab.f204x0))) (And.intro (And.intro @tab.f204x1 (And.intro @tab.f204x3 @tab.f204x6)) (And.intro @tab.s121 (And.intro @tab.u121 @trow_len)))))
theorem fall_calls (id pid : I16) (up op : Bool) (mi mn pi pn base got : Int) (ts : List (List UInt8)) :
    SCall Try.prog 98 [.ptr 0 0 0] [some (.row ⟨39, 1, true, 204, fun _ => EC.c ⟨id, .v (.bool up), .v (.bool op), .v (.int .i64 mi), .v (.int .i64 mn), .v (.int .i64 pi), .v (.int .i64 pn), pid, .ptr 1 0 0⟩⟩), some (.row ⟨3, 1, false, 197, fun _ => [.v (.int .i64 base), .slc 2 0 ts.length, .v (.int .i64 got)]⟩), some (.row ⟨1, ts.length, false, 35, trow ts⟩)]
      fun r L => r = .ret (.v (.bool op)) ∧ L = [some (.row ⟨39, 1, true, 204, fun _ => EC.c ⟨id, .v (.bool false), .v (.bool false), .v (.int .i64 0), .v (.int .i64 0), .v (.int .i64 0), .v (.int .i64 0), I16.zero, .ptr 3 0 0⟩⟩), none, none, some (.row ⟨3, 1, true, 197, fun _ => [.v (.int .i64 1), .slc 4 0 0, .v (.int .i64 0)]⟩), some (.row ⟨1, 0, true, 35, trow []⟩)] := by
  refine SCall.mk (fn := Try.f98) (by kernel_rfl) rfl (Nat.le_of_ble_eq_true (by kernel_rfl)) ?_
  refine Sem.go (k := 1000) ?_
  simp -dsimp (decide := true) (disch := first | omega | simp (decide := true) only [helpb11]) only [helpb37, ↓brun_b, envOf, reduceIte, Nat.reduceEqDiff, Nat.reduceAdd, Nat.reduceSub, Nat.reduceMul, Nat.reduceBEq, Nat.reduceLeDiff, Nat.reduceLT, Int.reduceToNat, rho]
  refine Sem.draw' (by kernel_rfl) (.one 0 (.one 1 (.one 2 (.one 3 (.alt 4 (.alt 5 (.one 6 (.one 7 (.alt 8 .done .non))) .non) (.alt 5 (.alt 4 (.one 6 (.one 7 (.alt 8 .done .non))) .non) .non)))))) [0] (by kernel_rfl) (fun G ff hG hf => ?_)
  simp (decide := true) only [helpb13, Nat.reduceAdd] at hG ⊢
  have hf2 := fun hc s' l wk => hf s' (Sem.weaken (s' := ⟨19, 3, [(0, .ptr 0 0 0), (3, .v (.bool op))], [some (.row ⟨39, 1, true, 204, fun _ => EC.c ⟨id, .v (.bool false), .v (.bool false), .v (.int .i64 0), .v (.int .i64 0), .v (.int .i64 0), .v (.int .i64 0), I16.zero, .ptr 3 0 0⟩⟩), none, none, some (.row ⟨3, 1, true, 197, fun _ => [.v (.int .i64 1), .v (.slice none 0 0), .v (.int .i64 0)]⟩)]⟩) l wk hc)
  replace hf2 := hf2 (by
    refine Lent.sem (Lent.ghostB 3 1 1 35 rfl rfl) (Sem.go (k := 1000) ?_)
    simp -dsimp (decide := true) (disch := first | omega | simp (decide := true) only [helpb11]) only [helpb37, ↓brun_b, envOf, reduceIte, Nat.reduceEqDiff, Nat.reduceAdd, Nat.reduceSub, Nat.reduceMul, Nat.reduceBEq, Nat.reduceLeDiff, Nat.reduceLT, Int.reduceToNat, rho]
    refine SQ.runL (rs := [.tmp 2]) [0, 1, 2, 3, 4] _ _ rfl (And.intro rfl rfl) (by decide) rfl rfl ?_ ?_
    · simp -dsimp (decide := true) (disch := first | omega | simp (decide := true) only [helpb11]) only [helpb38, ↓brun_b, envOf, reduceIte, Nat.reduceEqDiff, Nat.reduceAdd, Nat.reduceSub, Nat.reduceMul, Nat.reduceBEq, Nat.reduceLeDiff, Nat.reduceLT, Int.reduceToNat, rho, frz1, ↓reduceIte]
    · simp -dsimp (decide := true) (disch := first | omega | simp (decide := true) only [helpb11]) only [helpb38, ↓brun_b, envOf, reduceIte, Nat.reduceEqDiff, Nat.reduceAdd, Nat.reduceSub, Nat.reduceMul, Nat.reduceBEq, Nat.reduceLeDiff, Nat.reduceLT, Int.reduceToNat, rho, frz1, ↓reduceIte])
  simp -dsimp (decide := true) (disch := first | omega | simp (decide := true) only [helpb11]) only [helpb37, ↓brun_b, envOf, reduceIte, Nat.reduceEqDiff, Nat.reduceAdd, Nat.reduceSub, Nat.reduceMul, Nat.reduceBEq, Nat.reduceLeDiff, Nat.reduceLT, Int.reduceToNat, rho, hG]
  refine And.intro ?_ ?_
  · refine OpSem.callw [] cal.f48 (new_win) rfl rfl (by simp -dsimp (decide := true) (disch := first | omega | simp (decide := true) only [helpb11]) only [helpb38, ↓brun_b, envOf, reduceIte, Nat.reduceEqDiff, Nat.reduceAdd, Nat.reduceSub, Nat.reduceMul, Nat.reduceBEq, Nat.reduceLeDiff, Nat.reduceLT, Int.reduceToNat, rho, frz1, ↓reduceIte]) rfl (by simp -dsimp (decide := true) (disch := first | omega | simp (decide := true) only [helpb11]) only [helpb38, ↓brun_b, envOf, reduceIte, Nat.reduceEqDiff, Nat.reduceAdd, Nat.reduceSub, Nat.reduceMul, Nat.reduceBEq, Nat.reduceLeDiff, Nat.reduceLT, Int.reduceToNat, rho, frz1, ↓reduceIte]) (by simp -dsimp (decide := true) (disch := first | omega | simp (decide := true) only [helpb11]) only [helpb39, ↓brun_b, envOf, reduceIte, Nat.reduceEqDiff, Nat.reduceAdd, Nat.reduceSub, Nat.reduceMul, Nat.reduceBEq, Nat.reduceLeDiff, Nat.reduceLT, Int.reduceToNat]) ?_
    simp -dsimp (decide := true) (disch := first | omega | simp (decide := true) only [helpb11]) only [helpb40, ↓brun_b, envOf, reduceIte, Nat.reduceEqDiff, Nat.reduceAdd, Nat.reduceSub, Nat.reduceMul, Nat.reduceBEq, Nat.reduceLeDiff, Nat.reduceLT, Int.reduceToNat, rho, hG]
    refine hf2 _ [0, 1, 2, 3] ?_
    simp (decide := true) only [back_mk, backL_in, backL_row, backL_none, backL_nil, Nat.zero_add, Nat.reduceAdd]
    (refine Wk.ofC ?_; simp -dsimp (decide := true) (disch := first | omega | simp (decide := true) only [helpb11]) only [helpb38, ↓brun_b, envOf, reduceIte, Nat.reduceEqDiff, Nat.reduceAdd, Nat.reduceSub, Nat.reduceMul, Nat.reduceBEq, Nat.reduceLeDiff, Nat.reduceLT, Int.reduceToNat, rho, frz1, ↓reduceIte])
  · refine OpSem.callw [] cal.f48 (new_win) rfl rfl (by simp -dsimp (decide := true) (disch := first | omega | simp (decide := true) only [helpb11]) only [helpb38, ↓brun_b, envOf, reduceIte, Nat.reduceEqDiff, Nat.reduceAdd, Nat.reduceSub, Nat.reduceMul, Nat.reduceBEq, Nat.reduceLeDiff, Nat.reduceLT, Int.reduceToNat, rho, frz1, ↓reduceIte]) rfl (by simp -dsimp (decide := true) (disch := first | omega | simp (decide := true) only [helpb11]) only [helpb38, ↓brun_b, envOf, reduceIte, Nat.reduceEqDiff, Nat.reduceAdd, Nat.reduceSub, Nat.reduceMul, Nat.reduceBEq, Nat.reduceLeDiff, Nat.reduceLT, Int.reduceToNat, rho, frz1, ↓reduceIte]) (by simp -dsimp (decide := true) (disch := first | omega | simp (decide := true) only [helpb11]) only [helpb39, ↓brun_b, envOf, reduceIte, Nat.reduceEqDiff, Nat.reduceAdd, Nat.reduceSub, Nat.reduceMul, Nat.reduceBEq, Nat.reduceLeDiff, Nat.reduceLT, Int.reduceToNat]) ?_
    simp -dsimp (decide := true) (disch := first | omega | simp (decide := true) only [helpb11]) only [helpb40, ↓brun_b, envOf, reduceIte, Nat.reduceEqDiff, Nat.reduceAdd, Nat.reduceSub, Nat.reduceMul, Nat.reduceBEq, Nat.reduceLeDiff, Nat.reduceLT, Int.reduceToNat, rho, hG]
    refine hf2 _ [0, 1, 2, 3] ?_
    simp (decide := true) only [back_mk, backL_in, backL_row, backL_none, backL_nil, Nat.zero_add, Nat.reduceAdd]
    (refine Wk.ofC ?_; simp -dsimp (decide := true) (disch := first | omega | simp (decide := true) only [helpb11]) only [helpb38, ↓brun_b, envOf, reduceIte, Nat.reduceEqDiff, Nat.reduceAdd, Nat.reduceSub, Nat.reduceMul, Nat.reduceBEq, Nat.reduceLeDiff, Nat.reduceLT, Int.reduceToNat, rho, frz1, ↓reduceIte])
end Go.Proofs
namespace Go.Proofs
open Go Go.SL
set_option maxRecDepth 100000
theorem ceq135 (a b c d : Int) : SL.cellsEq [SV.v (.int .i64 a), SV.v (.int .i64 b)] [SV.v (.int .i64 c), SV.v (.int .i64 d)] = some (decide (a = c) && decide (b = d)) := by simp [SL.cellsEq, cellEq]
theorem eqv135 (d : Nat) (a b c e : Int) : EqV Try.prog (d + 2) 135 (.agg [.v (.int .i64 a), .v (.int .i64 b)]) (.agg [.v (.int .i64 c), .v (.int .i64 e)]) (decide (a = c) && decide (b = e)) := by
  have e0 : (decide (a = c) && decide (b = e)) = [decide (a = c), decide (b = e)].all id := by simp
  rw [e0]
  refine EqV.struct tab.u135 (by kernel_rfl) _ rfl fun i f r hf hr => ?_
  match i, hf, hr with
  | 0, hf, hr => cases hf; cases hr; exact ⟨by decide, 1, false, tab.s2, tab.a2, fun _ => rfl, by show 0 + 1 ≤ 2; decide, by show 0 + 1 ≤ 2; decide, EqV.int tab.u2⟩
  | 1, hf, hr => cases hf; cases hr; exact ⟨by decide, 1, false, tab.s2, tab.a2, fun _ => rfl, by show 1 + 1 ≤ 2; decide, by show 1 + 1 ≤ 2; decide, EqV.int tab.u2⟩
  | _ + 2, hf, hr => simp at hr
theorem flat135 (a b c e : Int) : FlatEq Try.prog 135 [.v (.int .i64 a), .v (.int .i64 b)] [.v (.int .i64 c), .v (.int .i64 e)] := EqV.flat (by kernel_rfl) (eqv135 9998 a b c e) (ceq135 a b c e)
end Go.Proofs
namespace Go.SL
open Go
structure IC where
  key : I16
  vn : SV
  vwho : I16
  val : SV
def IC.c (x : IC) : List SV := (x.key.c ++ (x.vn :: (x.vwho.c ++ (x.val :: []))))
theorem IC.c_length (x : IC) : x.c.length = 34 := by simp [IC.c, I16.c_length]
theorem IC.part (x : IC) : spart true x.c 0 34 = .agg x.c := by simp [spart, List.take_of_length_le, IC.c_length]
theorem IC.set_all (x y : IC) : splice x.c 0 y.c = y.c := splice_all _ _ (by rw [IC.c_length, IC.c_length])
theorem IC.one (x : IC) : x.c.all SV.one = (x.vn.one && x.val.one) := by simp [IC.c, List.all_append, I16.one, Bool.and_assoc]
theorem IC.flat (x : IC) : SV.flatL x.c = (x.vn.flat && x.val.flat) := by simp [IC.c, flatL_cons, flatL_app, I16.flat, flatL_nil, Bool.and_assoc]
theorem IC.renc (ρ : Nat → Nat) (x : IC) : SV.renL ρ x.c = IC.c ⟨x.key, SV.ren ρ x.vn, x.vwho, SV.ren ρ x.val⟩ := by simp [IC.c, renL_cons, renL_append, renL_flat _ _ (I16.flat _), renL_nil]
theorem IC.ent {fz : Nat → Option SB} {ρ : Nat → Nat} (key : I16) (vn : SV) (vwho : I16) (val : SV) (vn' : SV) (val' : SV) : EntL fz ρ (IC.c ⟨key, vn, vwho, val⟩) (IC.c ⟨key, vn', vwho, val'⟩) = (Ent fz ρ vn vn' ∧ Ent fz ρ val val') := by
  simp only [IC.c, EntL_pre _ _ _ (I16.flat _), EntL_cons, EntL_nil, and_true, EntL_self _ (I16.flat _)]
theorem FC.ent {fz : Nat → Option SB} {ρ : Nat → Nat} (kind : SV) (who : I16) (pn : SV) (toA : SV) (a : I16) (b : I16) (n : SV) (fi : SV) (fn : SV) (ti : SV) (tn : SV) (tr : SV) (is : SV) (key : I16) (vn : SV) (vwho : I16) (val : SV) (op : SV) (ttl : SV) (tx : SV) (kind' : SV) (pn' : SV) (toA' : SV) (n' : SV) (fi' : SV) (fn' : SV) (ti' : SV) (tn' : SV) (tr' : SV) (is' : SV) (vn' : SV) (val' : SV) (op' : SV) (ttl' : SV) (tx' : SV) : EntL fz ρ (FC.c ⟨kind, who, pn, toA, a, b, n, fi, fn, ti, tn, tr, is, key, vn, vwho, val, op, ttl, tx⟩) (FC.c ⟨kind', who, pn', toA', a, b, n', fi', fn', ti', tn', tr', is', key, vn', vwho, val', op', ttl', tx'⟩) = (Ent fz ρ kind kind' ∧ Ent fz ρ pn pn' ∧ Ent fz ρ toA toA' ∧ Ent fz ρ n n' ∧ Ent fz ρ fi fi' ∧ Ent fz ρ fn fn' ∧ Ent fz ρ ti ti' ∧ Ent fz ρ tn tn' ∧ Ent fz ρ tr tr' ∧ Ent fz ρ is is' ∧ Ent fz ρ vn vn' ∧ Ent fz ρ val val' ∧ Ent fz ρ op op' ∧ Ent fz ρ ttl ttl' ∧ Ent fz ρ tx tx') := by
  simp only [FC.c, EntL_pre _ _ _ (I16.flat _), EntL_cons, EntL_nil, and_true, EntL_self _ (I16.flat _)]
structure Frm where
  kind : Int
  who : I16
  pn : Int
  toA : Bool
  a : I16
  b : I16
  n : Int
  fi : Int
  fn : Int
  ti : Int
  tn : Int
  tr : List Int
  is : List I16
  key : I16
  vn : Int
  vwho : I16
  val : List UInt8
  op : Int
  ttl : Int
  tx : List UInt8
theorem lapp_nil {α : Type} (m : List α) : ([] : List α).append m = m := Eq.trans rfl rfl
def idrs (X : List I16) : List (List SV) := X.map I16.c
theorem idrs_flat (X : List I16) : SV.flatR (idrs X) = true := flatR_map _ _ fun t => I16.flat t
def Frm.fc (F : Frm) : FC := ⟨.v (.int .i64 F.kind), F.who, .v (.int .i64 F.pn), .v (.bool F.toA), F.a, F.b, .v (.int .i64 F.n), .v (.int .i64 F.fi), .v (.int .i64 F.fn), .v (.int .i64 F.ti), .v (.int .i64 F.tn), .rsl 1 (lrows F.tr), .rsl 16 (idrs F.is), F.key, .v (.int .i64 F.vn), F.vwho, bsl F.val, .v (.int .i64 F.op), .v (.int .i64 F.ttl), bsl F.tx⟩
end Go.SL
namespace Go.Proofs
open Go Go.SL
set_option maxRecDepth 100000
def zFrm : Frm := ⟨0, I16.zero, 0, false, I16.zero, I16.zero, 0, 0, 0, 0, 0, [], [], I16.zero, 0, I16.zero, [], 0, 0, []⟩
end Go.Proofs
