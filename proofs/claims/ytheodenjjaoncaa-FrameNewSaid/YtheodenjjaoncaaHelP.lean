/- Contracts of functions that the laws reach, on abstract values, and what they need: no conditions but those that each theorem states. -/
import Derived.Test.YtheodenjjaoncaaRepP
import Derived.Test.YtheodenjjaoncaaWinP
set_option linter.unusedVariables false
set_option linter.unusedSimpArgs false
set_option linter.defProp false
namespace Go.SL
open Go
theorem renL_append (ρ : Nat → Nat) : ∀ l m : List SV, SV.renL ρ (l ++ m) = SV.renL ρ l ++ SV.renL ρ m
  | [], m => rfl
  | x :: l, m => by rw [List.cons_append, renL_cons, renL_cons, renL_append ρ l m, List.cons_append]
theorem EntL_pre {fz : Nat → Option SB} {ρ : Nat → Nat} : ∀ (p l m : List SV), SV.flatL p = true → EntL fz ρ (p ++ l) (p ++ m) = EntL fz ρ l m
  | [], _, _, _ => rfl
  | x :: p, l, m, h => by
    simp only [flatL_cons, Bool.and_eq_true] at h
    rw [List.cons_append, List.cons_append, EntL_cons, EntL_pre p l m h.2, eq_true (Ent.self h.1), true_and]
structure H1 where
  fi : SV
  fn : SV
  ti : SV
  tn : SV
  a : I16
def H1.c (x : H1) : List SV := (x.fi :: (x.fn :: (x.ti :: (x.tn :: (x.a.c ++ [])))))
theorem H1.c_length (x : H1) : x.c.length = 20 := by simp [H1.c, I16.c_length]
theorem H1.at_fi (x : H1) : cellAt x.c 0 = x.fi := cellAt_get _ _ _ (by simp [H1.c, I16.c_length])
theorem H1.at_fn (x : H1) : cellAt x.c 1 = x.fn := cellAt_get _ _ _ (by simp [H1.c, I16.c_length])
theorem H1.at_ti (x : H1) : cellAt x.c 2 = x.ti := cellAt_get _ _ _ (by simp [H1.c, I16.c_length])
theorem H1.at_tn (x : H1) : cellAt x.c 3 = x.tn := cellAt_get _ _ _ (by simp [H1.c, I16.c_length])
theorem H1.part_a (x : H1) : spart true x.c 4 16 = .agg x.a.c := by simp [spart, H1.c, I16.c_length, List.take_of_length_le]
theorem H1.set_a (x : H1) (v : I16) : splice x.c 4 v.c = H1.c { x with a := v } := by simp [splice, H1.c, I16.c_length, List.drop_of_length_le]
theorem H1.part_from (x : H1) : spart true x.c 0 2 = .agg ([x.fi, x.fn]) := by simp [spart, H1.c]
theorem H1.set_from (x : H1) (u_fi : SV) (u_fn : SV) : splice x.c 0 ([u_fi, u_fn]) = H1.c { x with fi := u_fi, fn := u_fn } := by simp [splice, H1.c]
theorem H1.part_to (x : H1) : spart true x.c 2 2 = .agg ([x.ti, x.tn]) := by simp [spart, H1.c]
theorem H1.set_to (x : H1) (u_ti : SV) (u_tn : SV) : splice x.c 2 ([u_ti, u_tn]) = H1.c { x with ti := u_ti, tn := u_tn } := by simp [splice, H1.c]
theorem H1.part (x : H1) : spart true x.c 0 20 = .agg x.c := by simp [spart, List.take_of_length_le, H1.c_length]
theorem H1.set_all (x y : H1) : splice x.c 0 y.c = y.c := splice_all _ _ (by rw [H1.c_length, H1.c_length])
theorem H1.one (x : H1) : x.c.all SV.one = (x.fi.one && x.fn.one && x.ti.one && x.tn.one) := by simp [H1.c, I16.one, Bool.and_assoc]
theorem H1.flat (x : H1) : SV.flatL x.c = (x.fi.flat && x.fn.flat && x.ti.flat && x.tn.flat) := by simp [H1.c, flatL_cons, I16.flat, Bool.and_assoc]
theorem H1.renc (ρ : Nat → Nat) (x : H1) : SV.renL ρ x.c = H1.c ⟨SV.ren ρ x.fi, SV.ren ρ x.fn, SV.ren ρ x.ti, SV.ren ρ x.tn, x.a⟩ := by simp [H1.c, renL_cons, renL_flat _ _ (I16.flat _)]
theorem H1.ent {fz : Nat → Option SB} {ρ : Nat → Nat} (fi : SV) (fn : SV) (ti : SV) (tn : SV) (a : I16) (fi' : SV) (fn' : SV) (ti' : SV) (tn' : SV) : EntL fz ρ (H1.c ⟨fi, fn, ti, tn, a⟩) (H1.c ⟨fi', fn', ti', tn', a⟩) = (Ent fz ρ fi fi' ∧ Ent fz ρ fn fn' ∧ Ent fz ρ ti ti' ∧ Ent fz ρ tn tn') := by
  simp only [H1.c, EntL_pre _ _ _ (I16.flat _), EntL_cons, EntL_nil, and_true]
structure EC where
  id : I16
  up : SV
  op : SV
  mi : SV
  mn : SV
  pi : SV
  pn : SV
  pid : I16
  w : SV
def EC.c (x : EC) : List SV := (x.id.c ++ (x.up :: (x.op :: (x.mi :: (x.mn :: (x.pi :: (x.pn :: (x.pid.c ++ (x.w :: [])))))))))
theorem EC.c_length (x : EC) : x.c.length = 39 := by simp [EC.c, I16.c_length]
theorem EC.at_op (x : EC) : cellAt x.c 17 = x.op := cellAt_get _ _ _ (by simp [EC.c, I16.c_length])
theorem EC.set_op (x : EC) (v : SV) : splice x.c 17 [v] = EC.c { x with op := v } := by simp [splice, EC.c, List.drop_append, List.take_append, I16.c_length, List.take_of_length_le, List.drop_of_length_le]
theorem EC.at_pn (x : EC) : cellAt x.c 21 = x.pn := cellAt_get _ _ _ (by simp [EC.c, I16.c_length])
theorem EC.part (x : EC) : spart true x.c 0 39 = .agg x.c := by simp [spart, List.take_of_length_le, EC.c_length]
theorem EC.set_all (x y : EC) : splice x.c 0 y.c = y.c := splice_all _ _ (by rw [EC.c_length, EC.c_length])
theorem EC.one (x : EC) : x.c.all SV.one = (x.up.one && x.op.one && x.mi.one && x.mn.one && x.pi.one && x.pn.one && x.w.one) := by simp [EC.c, List.all_append, I16.one, Bool.and_assoc]
theorem EC.flat (x : EC) : SV.flatL x.c = (x.up.flat && x.op.flat && x.mi.flat && x.mn.flat && x.pi.flat && x.pn.flat && x.w.flat) := by simp [EC.c, flatL_cons, flatL_app, I16.flat, flatL_nil, Bool.and_assoc]
theorem EC.renc (ρ : Nat → Nat) (x : EC) : SV.renL ρ x.c = EC.c ⟨x.id, SV.ren ρ x.up, SV.ren ρ x.op, SV.ren ρ x.mi, SV.ren ρ x.mn, SV.ren ρ x.pi, SV.ren ρ x.pn, x.pid, SV.ren ρ x.w⟩ := by simp [EC.c, renL_cons, renL_append, renL_flat _ _ (I16.flat _), renL_nil]
theorem EC.ent {fz : Nat → Option SB} {ρ : Nat → Nat} (id : I16) (up : SV) (op : SV) (mi : SV) (mn : SV) (pi : SV) (pn : SV) (pid : I16) (w : SV) (up' : SV) (op' : SV) (mi' : SV) (mn' : SV) (pi' : SV) (pn' : SV) (w' : SV) : EntL fz ρ (EC.c ⟨id, up, op, mi, mn, pi, pn, pid, w⟩) (EC.c ⟨id, up', op', mi', mn', pi', pn', pid, w'⟩) = (Ent fz ρ up up' ∧ Ent fz ρ op op' ∧ Ent fz ρ mi mi' ∧ Ent fz ρ mn mn' ∧ Ent fz ρ pi pi' ∧ Ent fz ρ pn pn' ∧ Ent fz ρ w w') := by
  simp only [EC.c, EntL_pre _ _ _ (I16.flat _), EntL_cons, EntL_nil, and_true]
theorem FC.one_eq (x : FC) : x.c.all SV.one = (x.kind.one && x.pn.one && x.toA.one && x.n.one && x.fi.one && x.fn.one && x.ti.one && x.tn.one && x.tr.one && x.is.one && x.vn.one && x.val.one && x.op.one && x.ttl.one && x.tx.one) := by simp [FC.c, List.all_append, I16.one, Bool.and_assoc]
theorem FC.flat_eq (x : FC) : SV.flatL x.c = (x.kind.flat && x.pn.flat && x.toA.flat && x.n.flat && x.fi.flat && x.fn.flat && x.ti.flat && x.tn.flat && x.tr.flat && x.is.flat && x.vn.flat && x.val.flat && x.op.flat && x.ttl.flat && x.tx.flat) := by simp [FC.c, flatL_cons, flatL_app, I16.flat, flatL_nil, Bool.and_assoc]
end Go.SL
namespace Go.Proofs
open Go Go.SL
def zF : FC := ⟨.v (.int .i64 0), I16.zero, .v (.int .i64 0), .v (.bool false), I16.zero, I16.zero, .v (.int .i64 0), .v (.int .i64 0), .v (.int .i64 0), .v (.int .i64 0), .v (.int .i64 0), .v (.slice none 0 0), .v (.slice none 0 0), I16.zero, .v (.int .i64 0), I16.zero, .v (.slice none 0 0), .v (.int .i64 0), .v (.int .i64 0), .v (.slice none 0 0)⟩
def zH : H1 := ⟨.v (.int .i64 0), .v (.int .i64 0), .v (.int .i64 0), .v (.int .i64 0), I16.zero⟩
def zE : EC := ⟨I16.zero, .v (.bool false), .v (.bool false), .v (.int .i64 0), .v (.int .i64 0), .v (.int .i64 0), .v (.int .i64 0), I16.zero, .v (.pointer none)⟩
theorem bl151 (parts : List (Nat × SV)) : sBuild Try.prog 151 parts = sagg (sfill (fieldPlaceOf Try.prog 151) zF.c parts) := by
  rw [sBuild_eq, tab.z151, tab.l151]; rfl
theorem bl214 (parts : List (Nat × SV)) : sBuild Try.prog 214 parts = sagg (sfill (fieldPlaceOf Try.prog 214) zH.c parts) := by
  rw [sBuild_eq, tab.z214, tab.l214]; rfl
theorem al151 (N : Nat) : sAlloc Try.prog N 151 = some ⟨.ptr N 0 0, ⟨none, some (.row ⟨95, 1, true, 151, fun _ => zF.c⟩)⟩, True⟩ := sAlloc_eq N 151 _ tab.z151 rfl
theorem al214 (N : Nat) : sAlloc Try.prog N 214 = some ⟨.ptr N 0 0, ⟨none, some (.row ⟨20, 1, true, 214, fun _ => zH.c⟩)⟩, True⟩ := sAlloc_eq N 214 _ tab.z214 rfl
def helpc0 :=
  (aI (aI @cells_agg (aI @cells_int @fieldPlaceOf_eq)) (aI (aI @sagg_some @sfill1_some) (aI @sfill_cons @sfill_nil)))
def helpb0 :=
  (aI (aI (aI helpc0 @FC.set_a) (aI @FC.set_from (aI @FC.set_kind @FC.set_to))) (aI (aI @bl151 @tab.f151x0) (aI @tab.f151x3 (aI @tab.f151x6 @tab.f151x7))))
theorem build151h (fi fn ti tn : SV) (a : I16) : sBuild Try.prog 151 [(0, .v (.int .i64 1)), (6, .agg [fi, fn]), (7, .agg [ti, tn]), (3, .agg a.c)] = some ⟨.agg (FC.c { zF with kind := .v (.int .i64 1), fi := fi, fn := fn, ti := ti, tn := tn, a := a }), {}, True⟩ := by
  simp (disch := simp [FC.c_length, I16.c_length]) only [helpb0, Option.map_some]
def helpb1 :=
  (aI (aI (aI helpc0 @FC.set_from) (aI @FC.set_kind (aI @FC.set_n @FC.set_to))) (aI (aI @bl151 @tab.f151x0) (aI @tab.f151x5 (aI @tab.f151x6 @tab.f151x7))))
theorem build151a (fi fn ti tn : SV) (n : Int) : sBuild Try.prog 151 [(0, .v (.int .i64 3)), (6, .agg [fi, fn]), (7, .agg [ti, tn]), (5, .v (.int .i64 n))] = some ⟨.agg (FC.c { zF with kind := .v (.int .i64 3), fi := fi, fn := fn, ti := ti, tn := tn, n := .v (.int .i64 n) }), {}, True⟩ := by
  simp (disch := simp [FC.c_length, I16.c_length]) only [helpb1, Option.map_some]
def helpb2 :=
  (aI (aI (aI helpc0 @H1.set_a) (aI @H1.set_from @H1.set_to)) (aI (aI @bl214 @tab.f214x0) (aI @tab.f214x1 @tab.f214x2)))
theorem build214 (fi fn ti tn : SV) (a : I16) : sBuild Try.prog 214 [(0, .agg [fi, fn]), (1, .agg [ti, tn]), (2, .agg a.c)] = some ⟨.agg (H1.c ⟨fi, fn, ti, tn, a⟩), {}, True⟩ := by
  simp (disch := simp [H1.c_length, I16.c_length]) only [helpb2, Option.map_some]
end Go.Proofs
namespace Go.SL
open Go
theorem sop_assert (P : Program) (N : Nat) (get : Nat → Option SK) (ev : Operand → SV) (x : Operand) (t A : TypeId) (ok : Bool) : sop P N get ev (.typeAssert x t A ok) = sAssert P (ev x) A ok := Eq.trans rfl rfl
end Go.SL
namespace Go.Proofs
open Go Go.SL
set_option maxRecDepth 100000
theorem sassert_hit (A : TypeId) (v : SV) (d : TypeDesc) (hu : Try.prog.underlying A = some d) (hd : ∀ m, d ≠ .interface m) : sAssert Try.prog (.ifc A v) A true = some ⟨.tup [v, .v (.bool true)], {}, True⟩ := by
  unfold sAssert
  rw [hu]
  cases d <;> simp_all
theorem sassert_miss (t A : TypeId) (v z : SV) (d : TypeDesc) (hu : Try.prog.underlying A = some d) (hd : ∀ m, d ≠ .interface m) (h : t ≠ A) (hz : sZero Try.prog A = some z) : sAssert Try.prog (.ifc t v) A true = some ⟨.tup [z, .v (.bool false)], {}, True⟩ := by
  unfold sAssert
  rw [hu, hz]
  cases d <;> simp_all
theorem splice_s (x : SV) (l : List SV) (k : Nat) (v : List SV) : splice (x :: l) (k + 1) v = x :: splice l k v := by simp [splice, Nat.add_right_comm]
theorem splice_c (x : SV) (l : List SV) (y : SV) (v : List SV) : splice (x :: l) 0 (y :: v) = y :: splice l 0 v := by simp [splice]
theorem splice_0 (l : List SV) : splice l 0 [] = l := by simp [splice]
theorem sp02 (a b : SV) (l : List SV) : spart true (a :: b :: l) 0 2 = .agg [a, b] := Eq.trans rfl rfl
theorem sp22 (a b c d : SV) (l : List SV) : spart true (a :: b :: c :: d :: l) 2 2 = .agg [c, d] := Eq.trans rfl rfl
def zD : List SV := [.v (.int .i64 0), .v (.int .i64 0), .v (.int .i64 0), .v (.int .i64 0), .v (.int .i64 0), .v (.slice none 0 0)]
def zK : List SV := [.v (.int .i64 0), .v (.int .i64 0), .v (.int .i64 0), .v (.int .i64 0), .v (.int .i64 0)]
theorem sz214 : sZero Try.prog 214 = some (.agg zH.c) := by kernel_rfl
theorem sz210 : sZero Try.prog 210 = some (.agg zD) := by kernel_rfl
theorem sz218 : sZero Try.prog 218 = some (.agg zK) := by kernel_rfl
theorem hit214 (v : SV) : sAssert Try.prog (.ifc 214 v) 214 true = some ⟨.tup [v, .v (.bool true)], {}, True⟩ := sassert_hit 214 v _ tab.u214 (fun _ h => nomatch h)
theorem hit210 (v : SV) : sAssert Try.prog (.ifc 210 v) 210 true = some ⟨.tup [v, .v (.bool true)], {}, True⟩ := sassert_hit 210 v _ tab.u210 (fun _ h => nomatch h)
theorem hit218 (v : SV) : sAssert Try.prog (.ifc 218 v) 218 true = some ⟨.tup [v, .v (.bool true)], {}, True⟩ := sassert_hit 218 v _ tab.u218 (fun _ h => nomatch h)
theorem miss214 (t : TypeId) (v : SV) (h : t ≠ 214) : sAssert Try.prog (.ifc t v) 214 true = some ⟨.tup [.agg zH.c, .v (.bool false)], {}, True⟩ := sassert_miss t 214 v _ _ tab.u214 (fun _ h => nomatch h) h sz214
theorem miss210 (t : TypeId) (v : SV) (h : t ≠ 210) : sAssert Try.prog (.ifc t v) 210 true = some ⟨.tup [.agg zD, .v (.bool false)], {}, True⟩ := sassert_miss t 210 v _ _ tab.u210 (fun _ h => nomatch h) h sz210
theorem miss218 (t : TypeId) (v : SV) (h : t ≠ 218) : sAssert Try.prog (.ifc t v) 218 true = some ⟨.tup [.agg zK, .v (.bool false)], {}, True⟩ := sassert_miss t 218 v _ _ tab.u218 (fun _ h => nomatch h) h sz218
theorem al218 (N : Nat) : sAlloc Try.prog N 218 = some ⟨.ptr N 0 0, ⟨none, some (.row ⟨5, 1, true, 218, fun _ => [.v (.int .i64 0), .v (.int .i64 0), .v (.int .i64 0), .v (.int .i64 0), .v (.int .i64 0)]⟩)⟩, True⟩ := sAlloc_eq N 218 _ tab.z218 rfl
theorem al210 (N : Nat) : sAlloc Try.prog N 210 = some ⟨.ptr N 0 0, ⟨none, some (.row ⟨6, 1, true, 210, fun _ => [.v (.int .i64 0), .v (.int .i64 0), .v (.int .i64 0), .v (.int .i64 0), .v (.int .i64 0), .v (.slice none 0 0)]⟩)⟩, True⟩ := sAlloc_eq N 210 _ tab.z210 rfl
theorem mk214 (x : SV) : sMakeIface Try.prog 214 x = some ⟨.ifc 214 x, {}, True⟩ := by unfold sMakeIface; rw [tab.u214]
theorem mk210 (x : SV) : sMakeIface Try.prog 210 x = some ⟨.ifc 210 x, {}, True⟩ := by unfold sMakeIface; rw [tab.u210]
theorem mk218 (x : SV) : sMakeIface Try.prog 218 x = some ⟨.ifc 218 x, {}, True⟩ := by unfold sMakeIface; rw [tab.u218]
theorem bl218 (fi fn ti tn n : Int) : sBuild Try.prog 218 [(0, .agg [.v (.int .i64 fi), .v (.int .i64 fn)]), (1, .agg [.v (.int .i64 ti), .v (.int .i64 tn)]), (2, .v (.int .i64 n))] = some ⟨.agg [.v (.int .i64 fi), .v (.int .i64 fn), .v (.int .i64 ti), .v (.int .i64 tn), .v (.int .i64 n)], {}, True⟩ := by
  rw [sBuild_eq, tab.z218, tab.l218]; rfl
def helpc1 :=
  (aI (aI @EC.c_length @FC.c_length) (aI @H1.c_length @I16.c_length))
def helpc2 :=
  (aI (aI (aI @EC.one (aI @FC.flat_eq @FC.one_eq)) (aI @H1.flat (aI @H1.one @I16.flat))) (aI (aI @I16.one (aI @bdset_a @zD.eq_1)) (aI (aI @zE.eq_1 @zF.eq_1) (aI @zH.eq_1 @zK.eq_1))))
def helpb3 :=
  (aI helpc1 helpc2)
def helpc3 :=
  (aI (aI (aI (aI @EC.set_all @FC.part) (aI @FC.set_all @H1.part_a)) (aI (aI @H1.part_from @H1.part_to) (aI @H1.set_all (aI @I16.part @al151)))) (aI (aI (aI @al214 @al218) (aI @build151a (aI @build151h @build214))) (aI (aI @mk214 @mk218) (aI @sop_assert (aI @sp02 @sp22)))))
def helpc4 :=
  (aI (aI (aI (aI @beq_self_eq_true.{0} @brun_a) (aI @cond_false.{1} (aI @cond_true.{1} @tab.a147))) (aI (aI @tab.a149 (aI @tab.a2 @tab.a23)) (aI @tab.a35 (aI @tab.f149x0 @tab.f149x1)))) (aI (aI (aI @tab.f149x2 @tab.s147) (aI @tab.s149 (aI @tab.s2 @tab.s23))) (aI (aI @tab.s35 (aI @tab.u147 @tab.u2)) (aI @tab.u23 (aI @tab.u35 @tab.u5)))))
def helpc5 :=
  (aI (aI (aI (aI @tab.a135 (aI @tab.a144 @tab.a145)) (aI (aI @tab.a151 @tab.a3) (aI @tab.a4 @tab.a79))) (aI (aI (aI @tab.f135x0 @tab.f135x1) (aI @tab.f151x1 @tab.f151x10)) (aI (aI @tab.f151x11 @tab.f151x12) (aI @tab.f151x13 @tab.f151x2)))) (aI (aI (aI @tab.f151x4 (aI @tab.f151x8 @tab.f151x9)) (aI (aI @tab.s135 @tab.s144) (aI @tab.s145 @tab.s151))) (aI (aI (aI @tab.s3 @tab.s4) (aI @tab.s79 @tab.u135)) (aI (aI @tab.u144 @tab.u145) (aI @tab.u4 @tab.u79)))))
def helpc6 :=
  (aI (aI (aI @tab.f218x0 @tab.f218x1) (aI @tab.f218x2 @tab.s214)) (aI (aI @tab.s218 @tab.u210) (aI @tab.u214 @tab.u218)))
def helpb4 :=
  (aI (aI (aI helpc1 (aI helpc3 helpc4)) (aI (aI helpc5 helpc6) (aI @hit214 @tab.f151x0))) (aI (aI @tab.f151x3 (aI @tab.f151x5 @tab.f151x6)) (aI (aI @tab.f151x7 @tab.f214x0) (aI @tab.f214x1 @tab.f214x2))))
def helpb5 :=
  (aI (aI (aI (aI helpc1 helpc3) (aI helpc4 helpc5)) (aI (aI helpc6 @bwk_a) (aI @eq_self.{1} (aI @forall_const.{1} @implies_true.{0})))) (aI (aI (aI @implies_true.{1} @tab.f151x0) (aI @tab.f151x3 @tab.f151x5)) (aI (aI @tab.f151x6 @tab.f151x7) (aI @tab.f214x0 (aI @tab.f214x1 @tab.f214x2)))))
theorem plainH_calls (fi fn ti tn : Int) (a : I16) : Pure Try.prog 123 [.ifc 214 (.agg (H1.c ⟨.v (.int .i64 fi), .v (.int .i64 fn), .v (.int .i64 ti), .v (.int .i64 tn), a⟩))] (.agg (FC.c { zF with kind := .v (.int .i64 1), fi := .v (.int .i64 fi), fn := .v (.int .i64 fn), ti := .v (.int .i64 ti), tn := .v (.int .i64 tn), a := a })) := by
  refine SCall.mk (fn := Try.f123) (by kernel_rfl) rfl (Nat.le_of_ble_eq_true (by kernel_rfl)) ?_
  refine goC ?_
  simp -dsimp +decide (disch := first | omega | simp +decide only [helpb3]) only [helpb4, ↓brun_b, envOf, Nat.reduceAdd, Nat.reduceBEq]
  refine SQ.answer (rs := [.cell 2 151]) rfl rfl ?_
  simp -dsimp +decide (disch := first | omega | simp +decide only [helpb3]) only [helpb5, ↓brun_b, Nat.reduceAdd, Nat.reduceBEq, rho]
def helpb6 :=
  (aI (aI (aI (aI helpc1 helpc3) (aI helpc4 helpc5)) (aI (aI helpc6 @cellAt_succ) (aI @cellAt_zero (aI @hit218 @splice_0)))) (aI (aI (aI @splice_c @tab.f151x0) (aI @tab.f151x3 @tab.f151x5)) (aI (aI @tab.f151x6 @tab.f151x7) (aI @tab.f214x0 (aI @tab.f214x1 @tab.f214x2)))))
theorem plainK_calls (fi fn ti tn n : Int) : Pure Try.prog 123 [.ifc 218 (.agg [.v (.int .i64 fi), .v (.int .i64 fn), .v (.int .i64 ti), .v (.int .i64 tn), .v (.int .i64 n)])] (.agg (FC.c { zF with kind := .v (.int .i64 3), fi := .v (.int .i64 fi), fn := .v (.int .i64 fn), ti := .v (.int .i64 ti), tn := .v (.int .i64 tn), n := .v (.int .i64 n) })) := by
  refine SCall.mk (fn := Try.f123) (by kernel_rfl) rfl (Nat.le_of_ble_eq_true (by kernel_rfl)) ?_
  refine goC ?_
  simp -dsimp +decide (disch := first | omega | simp +decide only [helpb3]) only [helpb6, ↓brun_b, envOf, Nat.reduceAdd, Nat.reduceBEq, fun v => miss214 218 v (by decide), fun v => miss210 218 v (by decide)]
  refine SQ.answer (rs := [.cell 2 151]) rfl rfl ?_
  simp -dsimp +decide (disch := first | omega | simp +decide only [helpb3]) only [helpb5, ↓brun_b, Nat.reduceAdd, Nat.reduceBEq, rho]
end Go.Proofs
namespace Go.Proofs
open Go Go.SL
set_option maxRecDepth 100000
end Go.Proofs
namespace Go.Proofs
open Go Go.SL
set_option maxRecDepth 100000
end Go.Proofs
namespace Go.Proofs
open Go Go.SL
set_option maxRecDepth 100000
theorem build151z : sBuild Try.prog 151 [] = some ⟨.agg zF.c, {}, True⟩ := by
  rw [bl151]; rfl
end Go.Proofs
namespace Go.Proofs
open Go Go.SL
set_option maxRecDepth 100000
theorem cellsEqApp : ∀ (l1 m1 l2 m2 : List SV) (x y : Bool), l1.length = m1.length → cellsEq l1 m1 = some x → cellsEq l2 m2 = some y → cellsEq (l1 ++ l2) (m1 ++ m2) = some (x && y)
  | [], [], l2, m2, x, y, _, h1, h2 => by cases h1; simpa using h2
  | a :: l1, b :: m1, l2, m2, x, y, hl, h1, h2 => by
    simp only [cellsEq] at h1
    simp only [List.cons_append, cellsEq]
    cases hc : cellEq a b with
    | none => simp [hc] at h1
    | some u =>
      cases hr : cellsEq l1 m1 with
      | none => simp [hc, hr] at h1
      | some v =>
        simp only [hc, hr, Option.some.injEq] at h1
        rw [cellsEqApp l1 m1 l2 m2 v y (by simpa using hl) hr h2]
        subst h1
        simp [Bool.and_assoc]
  | [], _ :: _, _, _, _, _, h, _, _ => by simp at h
  | _ :: _, [], _, _, _, _, h, _, _ => by simp at h
theorem ceq135 (a b c d : Int) : SL.cellsEq [SV.v (.int .i64 a), SV.v (.int .i64 b)] [SV.v (.int .i64 c), SV.v (.int .i64 d)] = some (decide (a = c) && decide (b = d)) := by simp [SL.cellsEq, cellEq]
theorem eqv135 (d : Nat) (a b c e : Int) : EqV Try.prog (d + 2) 135 (.agg [.v (.int .i64 a), .v (.int .i64 b)]) (.agg [.v (.int .i64 c), .v (.int .i64 e)]) (decide (a = c) && decide (b = e)) := by
  have e0 : (decide (a = c) && decide (b = e)) = [decide (a = c), decide (b = e)].all id := by simp
  rw [e0]
  refine EqV.struct tab.u135 (by kernel_rfl) _ rfl fun i f r hf hr => ?_
  match i, hf, hr with
  | 0, hf, hr => cases hf; cases hr; exact ⟨by decide, 1, false, tab.s2, tab.a2, fun _ => rfl, by show 0 + 1 ≤ 2; decide, by show 0 + 1 ≤ 2; decide, EqV.int tab.u2⟩
  | 1, hf, hr => cases hf; cases hr; exact ⟨by decide, 1, false, tab.s2, tab.a2, fun _ => rfl, by show 1 + 1 ≤ 2; decide, by show 1 + 1 ≤ 2; decide, EqV.int tab.u2⟩
  | _ + 2, hf, hr => simp at hr
theorem flat135 (a b c e : Int) : FlatEq Try.prog 135 [.v (.int .i64 a), .v (.int .i64 b)] [.v (.int .i64 c), .v (.int .i64 e)] := EqV.flat (by kernel_rfl) (eqv135 9998 a b c e) (ceq135 a b c e)
theorem ceq1 (a b : Int) : SL.cellsEq [SV.v (.int .i64 a)] [SV.v (.int .i64 b)] = some (decide (a = b)) := by simp [SL.cellsEq, cellEq]
theorem ceq144 (a b : I16) (x y : Int) : SL.cellsEq (a.c ++ [SV.v (.int .i64 x)]) (b.c ++ [SV.v (.int .i64 y)]) = some (decide (a.l = b.l) && decide (x = y)) :=
  cellsEqApp _ _ _ _ _ _ (by rw [I16.c_length, I16.c_length]) (I16.cellsEq a b) (ceq1 x y)
theorem sp144a (a : I16) (x : SV) : spart true (a.c ++ [x]) 0 16 = .agg a.c := by simp [spart, I16.c_length]
theorem sp144b (a : I16) (x : SV) : spart false (a.c ++ [x]) 16 1 = x := by
  simp only [spart, Bool.false_eq_true, if_false]
  exact cellAt_get _ _ _ (by simp [I16.c_length])
theorem eqv144 (d : Nat) (a b : I16) (x y : Int) : EqV Try.prog (d + 3) 144 (.agg (a.c ++ [.v (.int .i64 x)])) (.agg (b.c ++ [.v (.int .i64 y)])) (decide (a.l = b.l) && decide (x = y)) := by
  have e0 : (decide (a.l = b.l) && decide (x = y)) = [decide (a.l = b.l), decide (x = y)].all id := by simp
  rw [e0]
  refine EqV.struct tab.u144 (by kernel_rfl) _ rfl fun i f r hf hr => ?_
  match i, hf, hr with
  | 0, hf, hr => cases hf; cases hr; exact ⟨by decide, 16, true, tab.s23, tab.a23, fun h => (nomatch h), by simp [I16.c_length], by simp [I16.c_length], by rw [sp144a, sp144a]; exact eqv23 d _ _⟩
  | 1, hf, hr => cases hf; cases hr; exact ⟨by decide, 1, false, tab.s2, tab.a2, fun _ => rfl, by simp [I16.c_length], by simp [I16.c_length], by rw [sp144b, sp144b]; exact EqV.int tab.u2⟩
  | _ + 2, hf, hr => simp at hr
theorem flat144 (a b : I16) (x y : Int) : FlatEq Try.prog 144 (a.c ++ [.v (.int .i64 x)]) (b.c ++ [.v (.int .i64 y)]) := EqV.flat (by kernel_rfl) (eqv144 9997 a b x y) (ceq144 a b x y)
theorem ceq147 (a b : I16) (x y : Int) : SL.cellsEq (SV.v (.int .i64 x) :: a.c) (SV.v (.int .i64 y) :: b.c) = some (decide (x = y) && decide (a.l = b.l)) :=
  cellsEqApp [SV.v (.int .i64 x)] [SV.v (.int .i64 y)] _ _ _ _ rfl (ceq1 x y) (I16.cellsEq a b)
theorem sp147a (a : I16) (x : SV) : spart false (x :: a.c) 0 1 = x := Eq.trans rfl rfl
theorem sp147b (a : I16) (x : SV) : spart true (x :: a.c) 1 16 = .agg a.c := by simp [spart, I16.c_length, List.take_of_length_le]
theorem eqv147 (d : Nat) (a b : I16) (x y : Int) : EqV Try.prog (d + 3) 147 (.agg (.v (.int .i64 x) :: a.c)) (.agg (.v (.int .i64 y) :: b.c)) (decide (x = y) && decide (a.l = b.l)) := by
  have e0 : (decide (x = y) && decide (a.l = b.l)) = [decide (x = y), decide (a.l = b.l)].all id := by simp
  rw [e0]
  refine EqV.struct tab.u147 (by kernel_rfl) _ rfl fun i f r hf hr => ?_
  match i, hf, hr with
  | 0, hf, hr => cases hf; cases hr; exact ⟨by decide, 1, false, tab.s2, tab.a2, fun _ => rfl, by simp [I16.c_length], by simp [I16.c_length], by rw [sp147a, sp147a]; exact EqV.int tab.u2⟩
  | 1, hf, hr => cases hf; cases hr; exact ⟨by decide, 16, true, tab.s23, tab.a23, fun h => (nomatch h), by simp [I16.c_length], by simp [I16.c_length], by rw [sp147b, sp147b]; exact eqv23 d _ _⟩
  | _ + 2, hf, hr => simp at hr
theorem flat147 (a b : I16) (x y : Int) : FlatEq Try.prog 147 (.v (.int .i64 x) :: a.c) (.v (.int .i64 y) :: b.c) := EqV.flat (by kernel_rfl) (eqv147 9997 a b x y) (ceq147 a b x y)
theorem cls_i16 {n : Nat} {l : List SV} (h : ClsC Try.prog (n + 2) 23 l) : ∃ a : I16, l = a.c := by
  unfold ClsC at h
  rw [tab.u23] at h
  obtain ⟨parts, rfl, hlen, hp⟩ := h
  have : ∃ xs : List Int, parts = xs.map (fun x => [SV.v (.int .u8 x)]) ∧ ∀ x ∈ xs, 0 ≤ x ∧ x < 256 := by
    clear hlen
    induction parts with
    | nil => exact ⟨[], rfl, fun x h => by simp at h⟩
    | cons r parts ih =>
      obtain ⟨xs, h1, h2⟩ := ih fun r hr => hp r (by simp [hr])
      have h3 := hp r (by simp)
      unfold ClsC at h3
      rw [tab.u5] at h3
      obtain ⟨x, rfl, hw⟩ := h3
      refine ⟨x :: xs, by rw [h1]; rfl, fun y hy => ?_⟩
      simp only [List.mem_cons] at hy
      rcases hy with rfl | hy
      · have h4 : IntKind.u8.min = 0 := rfl
        have h5 : IntKind.u8.max = 255 := rfl
        simp only [Lit.wf, Bool.and_eq_true, decide_eq_true_eq, h4, h5] at hw
        omega
      · exact h2 y hy
  obtain ⟨xs, rfl, hx⟩ := this
  refine ⟨⟨xs, by simpa using hlen, hx⟩, ?_⟩
  show (xs.map fun x => [SV.v (.int .u8 x)]).flatten = xs.map fun n => SV.v (.int .u8 n)
  clear hlen hp hx
  induction xs with
  | nil => rfl
  | cons x xs ih => simp only [List.map_cons, List.flatten_cons, ih]; rfl
end Go.Proofs
namespace Go.SL
open Go
structure IC where
  key : I16
  vn : SV
  vwho : I16
  val : SV
def IC.c (x : IC) : List SV := (x.key.c ++ (x.vn :: (x.vwho.c ++ (x.val :: []))))
theorem IC.c_length (x : IC) : x.c.length = 34 := by simp [IC.c, I16.c_length]
theorem IC.part_key (x : IC) : spart true x.c 0 16 = .agg x.key.c := by simp [spart, IC.c, List.drop_append, I16.c_length]
theorem IC.set_key (x : IC) (v : I16) : splice x.c 0 v.c = IC.c { x with key := v } := by simp [splice, IC.c, List.take_append, I16.c_length]
theorem IC.at_vn (x : IC) : cellAt x.c 16 = x.vn := cellAt_get _ _ _ (by simp [IC.c, I16.c_length])
theorem IC.part_vwho (x : IC) : spart true x.c 17 16 = .agg x.vwho.c := by simp [spart, IC.c, List.drop_append, I16.c_length, List.drop_of_length_le]
theorem IC.at_val (x : IC) : cellAt x.c 33 = x.val := cellAt_get _ _ _ (by simp [IC.c, I16.c_length])
theorem IC.set_val (x : IC) (v : SV) : splice x.c 33 [v] = IC.c { x with val := v } := by simp [splice, IC.c, List.take_append, I16.c_length, List.take_of_length_le, List.drop_of_length_le]
theorem IC.part_ver (x : IC) : spart true x.c 16 17 = .agg ((x.vn :: x.vwho.c)) := by simp [spart, IC.c, I16.c_length]
theorem IC.set_ver (x : IC) (u_vn : SV) (u_vwho : I16) : splice x.c 16 ((u_vn :: u_vwho.c)) = IC.c { x with vn := u_vn, vwho := u_vwho } := by simp [splice, IC.c, List.drop_append, I16.c_length, List.drop_of_length_le]
theorem IC.part (x : IC) : spart true x.c 0 34 = .agg x.c := by simp [spart, List.take_of_length_le, IC.c_length]
theorem IC.set_all (x y : IC) : splice x.c 0 y.c = y.c := splice_all _ _ (by rw [IC.c_length, IC.c_length])
theorem IC.one (x : IC) : x.c.all SV.one = (x.vn.one && x.val.one) := by simp [IC.c, List.all_append, I16.one]
theorem IC.flat (x : IC) : SV.flatL x.c = (x.vn.flat && x.val.flat) := by simp [IC.c, flatL_cons, flatL_app, I16.flat, flatL_nil]
theorem IC.renc (ρ : Nat → Nat) (x : IC) : SV.renL ρ x.c = IC.c ⟨x.key, SV.ren ρ x.vn, x.vwho, SV.ren ρ x.val⟩ := by simp [IC.c, renL_cons, renL_append, renL_flat _ _ (I16.flat _), renL_nil]
theorem IC.ent {fz : Nat → Option SB} {ρ : Nat → Nat} (key : I16) (vn : SV) (vwho : I16) (val : SV) (vn' : SV) (val' : SV) : EntL fz ρ (IC.c ⟨key, vn, vwho, val⟩) (IC.c ⟨key, vn', vwho, val'⟩) = (Ent fz ρ vn vn' ∧ Ent fz ρ val val') := by
  simp only [IC.c, EntL_pre _ _ _ (I16.flat _), EntL_cons, EntL_nil, and_true]
theorem FC.part_it (x : FC) : spart true x.c 58 34 = .agg (IC.c ⟨x.key, x.vn, x.vwho, x.val⟩) := FC.part_item x
theorem FC.ent {fz : Nat → Option SB} {ρ : Nat → Nat} (kind : SV) (who : I16) (pn : SV) (toA : SV) (a : I16) (b : I16) (n : SV) (fi : SV) (fn : SV) (ti : SV) (tn : SV) (tr : SV) (is : SV) (key : I16) (vn : SV) (vwho : I16) (val : SV) (op : SV) (ttl : SV) (tx : SV) (kind' : SV) (pn' : SV) (toA' : SV) (n' : SV) (fi' : SV) (fn' : SV) (ti' : SV) (tn' : SV) (tr' : SV) (is' : SV) (vn' : SV) (val' : SV) (op' : SV) (ttl' : SV) (tx' : SV) : EntL fz ρ (FC.c ⟨kind, who, pn, toA, a, b, n, fi, fn, ti, tn, tr, is, key, vn, vwho, val, op, ttl, tx⟩) (FC.c ⟨kind', who, pn', toA', a, b, n', fi', fn', ti', tn', tr', is', key, vn', vwho, val', op', ttl', tx'⟩) = (Ent fz ρ kind kind' ∧ Ent fz ρ pn pn' ∧ Ent fz ρ toA toA' ∧ Ent fz ρ n n' ∧ Ent fz ρ fi fi' ∧ Ent fz ρ fn fn' ∧ Ent fz ρ ti ti' ∧ Ent fz ρ tn tn' ∧ Ent fz ρ tr tr' ∧ Ent fz ρ is is' ∧ Ent fz ρ vn vn' ∧ Ent fz ρ val val' ∧ Ent fz ρ op op' ∧ Ent fz ρ ttl ttl' ∧ Ent fz ρ tx tx') := by
  simp only [FC.c, EntL_pre _ _ _ (I16.flat _), EntL_cons, EntL_nil, and_true]
structure Frm where
  kind : Int
  who : I16
  pn : Int
  toA : Bool
  a : I16
  b : I16
  n : Int
  fi : Int
  fn : Int
  ti : Int
  tn : Int
  tr : List Int
  is : List I16
  key : I16
  vn : Int
  vwho : I16
  val : List UInt8
  op : Int
  ttl : Int
  tx : List UInt8
theorem lapp_cons {α : Type} (a : α) (l m : List α) : (a :: l).append m = a :: l.append m := Eq.trans rfl rfl
theorem lapp_nil {α : Type} (m : List α) : ([] : List α).append m = m := Eq.trans rfl rfl
def idrs (X : List I16) : List (List SV) := X.map I16.c
theorem idrs_len (X : List I16) : (idrs X).length = X.length := by simp [idrs]
theorem idrs_flat (X : List I16) : SV.flatR (idrs X) = true := flatR_map _ _ fun t => I16.flat t
theorem idrs_at (X : List I16) (k : Nat) (h : k < X.length) (d : I16) : (idrs X).getD k [] = (X.getD k d).c := by
  simp [idrs, List.getD_eq_getElem?_getD, List.getElem?_eq_getElem h]
def Frm.fc (F : Frm) : FC := ⟨.v (.int .i64 F.kind), F.who, .v (.int .i64 F.pn), .v (.bool F.toA), F.a, F.b, .v (.int .i64 F.n), .v (.int .i64 F.fi), .v (.int .i64 F.fn), .v (.int .i64 F.ti), .v (.int .i64 F.tn), .rsl 1 (lrows F.tr), .rsl 16 (idrs F.is), F.key, .v (.int .i64 F.vn), F.vwho, bsl F.val, .v (.int .i64 F.op), .v (.int .i64 F.ttl), bsl F.tx⟩
end Go.SL
namespace Go.Proofs
open Go Go.SL
set_option maxRecDepth 100000
def helpb7 :=
  (aI (aI (aI helpc1 helpc2) (aI @IC.c_length (aI @IC.flat @IC.one))) (aI (aI @idrs_flat @idrs_len) (aI @lrow_len (aI @lrows_flat @lrows_length))))
def helpc7 :=
  (aI (aI (aI @EC.at_op (aI @EC.ent @Int.cast_ofNat_Int)) (aI (aI @List.replicate_succ.{0} @List.replicate_zero.{0}) (aI @SKren_row @after_mk))) (aI (aI @build151z (aI @mergeL_done @mergeL_row)) (aI (aI @renL_cons @renL_flat) (aI @renL_nil @ren_tup))))
def helpb8 :=
  (aI (aI (aI helpc7 (aI helpc1 helpc3)) (aI helpc4 (aI @IC.at_val @IC.c_length))) (aI (aI @IC.part_key (aI @IC.part_ver @cellAt_succ)) (aI (aI @cellAt_zero @splice_0) (aI @splice_c @tab.u9))))
def helpb9 :=
  (aI (aI (aI (aI helpc7 helpc1) (aI helpc3 helpc4)) (aI (aI @IC.at_val @IC.c_length) (aI @IC.part_key (aI @IC.part_ver @bwk_a)))) (aI (aI (aI @cellAt_succ @cellAt_zero) (aI @eq_self.{1} @forall_const.{1})) (aI (aI @implies_true.{0} @implies_true.{1}) (aI @splice_0 (aI @splice_c @tab.u9)))))
theorem sameItem_refl (key vwho : I16) (vn : Int) (val : List UInt8) : Pure Try.prog 139 [.agg (IC.c ⟨key, .v (.int .i64 vn), vwho, bsl val⟩), .agg (IC.c ⟨key, .v (.int .i64 vn), vwho, bsl val⟩)] (.v (.bool true)) := by
  refine SCall.mk (fn := Try.f139) (by kernel_rfl) rfl (Nat.le_of_ble_eq_true (by kernel_rfl)) ?_
  refine goC ?_
  simp -dsimp +decide (disch := first | omega | simp +decide only [helpb7]) only [helpb8, ↓brun_b, envOf, Nat.reduceAdd, Nat.reduceBEq, sBin_agg .eql 23 _ _ _ (I16.cellsEq _ _), sBin_agg .eql 147 _ _ _ (ceq147 _ _ _ _)]
  refine And.intro (flat23 _ _) (And.intro (flat147 _ _ _ _) ?_)
  refine SQ.answer (rs := [.tmp 4]) rfl rfl ?_
  simp -dsimp +decide (disch := first | omega | simp +decide only [helpb7]) only [helpb9, ↓brun_b, Nat.reduceAdd, rho]
def helpc8 :=
  (aI (aI (aI @FC.at_is (aI @FC.at_kind @FC.at_n)) (aI (aI @FC.at_op @FC.at_toA) (aI @FC.at_tr @FC.at_ttl))) (aI (aI @FC.at_tx (aI @FC.part_P @FC.part_a)) (aI (aI @FC.part_b @FC.part_from) (aI @FC.part_it @FC.part_to))))
def helpb10 :=
  (aI (aI (aI (aI helpc7 helpc1) (aI helpc3 helpc8)) (aI (aI helpc4 helpc5) (aI @cellAt_succ @cellAt_zero))) (aI (aI (aI @splice_0 @splice_c) (aI @tab.f151x0 @tab.f151x3)) (aI (aI @tab.f151x5 @tab.f151x6) (aI @tab.f151x7 @tab.u9))))
def helpb11 :=
  (aI (aI (aI (aI helpc7 helpc1) (aI helpc3 (aI helpc8 helpc4))) (aI (aI helpc5 @bwk_a) (aI @cellAt_succ (aI @cellAt_zero @eq_self.{1})))) (aI (aI (aI @forall_const.{1} @implies_true.{0}) (aI @implies_true.{1} (aI @splice_0 @splice_c))) (aI (aI @tab.f151x0 (aI @tab.f151x3 @tab.f151x5)) (aI @tab.f151x6 (aI @tab.f151x7 @tab.u9)))))
def helpb12 :=
  (aI (aI (aI (aI helpc7 helpc1) (aI helpc3 helpc8)) (aI (aI helpc4 helpc5) (aI @cellAt_succ @cellAt_zero))) (aI (aI (aI @lrows_length @splice_0) (aI @splice_c @tab.f151x0)) (aI (aI @tab.f151x3 @tab.f151x5) (aI @tab.f151x6 (aI @tab.f151x7 @tab.u9)))))
def helpb13 :=
  (aI (aI (aI @List.length_cons.{0} @List.length_nil.{0}) (aI @Nat.zero_add @roL_in)) (aI (aI @roL_nil @roL_none) (aI @roL_row @ro_mk)))
def helpb14 :=
  (aI (aI (aI (aI helpc7 helpc1) (aI helpc3 (aI helpc8 helpc4))) (aI (aI helpc5 @cellAt_succ) (aI @cellAt_zero (aI @lrow_cell @lrow_len)))) (aI (aI (aI @lrows_at @lrows_length) (aI @splice_0 (aI @splice_c @tab.f151x0))) (aI (aI @tab.f151x3 @tab.f151x5) (aI @tab.f151x6 (aI @tab.f151x7 @tab.u9)))))
def helpb15 :=
  (aI (aI (aI (aI helpc7 helpc1) (aI helpc3 helpc8)) (aI (aI helpc4 helpc5) (aI @cellAt_succ @cellAt_zero))) (aI (aI (aI @idrs_len @splice_0) (aI @splice_c @tab.f151x0)) (aI (aI @tab.f151x3 @tab.f151x5) (aI @tab.f151x6 (aI @tab.f151x7 @tab.u9)))))
def helpb16 :=
  (aI (aI (aI helpc4 helpc5) (aI @tab.f151x0 @tab.f151x3)) (aI (aI @tab.f151x5 @tab.f151x6) (aI @tab.f151x7 @tab.u9)))
def helpb17 :=
  (aI (aI (aI (aI helpc7 helpc1) (aI helpc3 (aI helpc4 helpc5))) (aI (aI @bwk_a @cellAt_succ) (aI @cellAt_zero (aI @eq_self.{1} @forall_const.{1})))) (aI (aI (aI @implies_true.{0} @implies_true.{1}) (aI @splice_0 (aI @splice_c @tab.f151x0))) (aI (aI @tab.f151x3 @tab.f151x5) (aI @tab.f151x6 (aI @tab.f151x7 @tab.u9)))))
theorem same_refl (F : Frm) (h1 : F.tr.length < 4611686018427387904) (h2 : F.is.length < 4611686018427387904) : Pure Try.prog 104 [.agg F.fc.c, .agg F.fc.c] (.v (.bool true)) := by
  refine SCall.mk (fn := Try.f104) (by kernel_rfl) rfl (Nat.le_of_ble_eq_true (by kernel_rfl)) ?_
  refine goC ?_
  simp -dsimp +decide (disch := first | omega | simp +decide only [helpb7]) only [helpb10, ↓brun_b, envOf, Nat.reduceAdd, Nat.reduceBEq, Frm.fc]
  refine Sem.loop (ι := {k : Nat // k ≤ F.tr.length}) (fun k => ⟨143, 0, [(2, .ptr 0 0 0), (3, .ptr 1 0 0), (4, .v (.bool false)), (5, .v (.int .i64 (k.1 : Int)))], [some (.row ⟨95, 1, true, 151, fun _ => F.fc.c⟩), some (.row ⟨95, 1, true, 151, fun _ => F.fc.c⟩)]⟩) (fun k => F.tr.length - k.1) ⟨0, by omega⟩ [0, 1] ?_ ?_
  · (refine Wk.ofC ?_; simp -dsimp +decide (disch := first | omega | simp +decide only [helpb7]) only [helpb11, ↓brun_b, Nat.reduceAdd, Nat.reduceBEq, Frm.fc])
  · rintro ⟨k, hk⟩
    refine goC ?_
    simp -dsimp +decide (disch := first | omega | simp +decide only [helpb7]) only [helpb12, ↓brun_b, Nat.reduceAdd, Nat.reduceBEq, Frm.fc]
    refine SCond.split (fun h3 => ?_) (fun h3 => ?_)
    · simp only [decide_eq_true_eq] at h3
      have hk' : k < F.tr.length := by omega
      have hw : IntKind.i64.wrap ((k : Int) + 1) = ((k + 1 : Nat) : Int) := by rw [wrap_i64 _ (by omega)]; rfl
      simp -dsimp +decide (disch := first | omega | simp +decide only [helpb7]) only [helpb10]
      refine Sem.draw' (by kernel_rfl) (.one 0 (.one 1 (.one 2 (.one 3 (.one 4 (.one 5 (.one 6 (.one 7 (.one 8 (.one 9 (.one 10 .done))))))))))) [] (by kernel_rfl) (fun G ff hG hf => ?_)
      simp +decide only [helpb13, Nat.reduceAdd] at hG ⊢
      simp -dsimp +decide (disch := first | omega | simp +decide only [helpb7]) only [helpb14, ↓brun_b, Nat.reduceAdd, Nat.reduceBEq, Nat.reduceLeDiff, hG]
      refine And.intro (by omega) (And.intro (by omega) ?_)
      refine hf _ (Sem.go (k := 1000) ?_)
      simp +decide only [back_mk, backL_row, backL_nil, Nat.zero_add, Nat.reduceAdd]
      simp -dsimp +decide (disch := first | omega | simp +decide only [helpb7]) only [helpb10, ↓brun_b, Nat.reduceAdd, Nat.reduceBEq, hw]
      refine ⟨⟨k + 1, by omega⟩, [0, 1], ?_, by show F.tr.length - (k + 1) < F.tr.length - k; omega⟩
      (refine Wk.ofC ?_; simp -dsimp +decide (disch := first | omega | simp +decide only [helpb7]) only [helpb11, ↓brun_b, Nat.reduceAdd, Nat.reduceBEq])
    · simp -dsimp +decide (disch := first | omega | simp +decide only [helpb7]) only [helpb10, ↓brun_b, reduceIte, Nat.reduceAdd]
      refine Sem.loop (ι := {k : Nat // k ≤ F.is.length}) (fun k => ⟨143, 0, [(2, .ptr 0 0 0), (3, .ptr 1 0 0), (4, .v (.bool false)), (6, .v (.int .i64 (k.1 : Int)))], [some (.row ⟨95, 1, true, 151, fun _ => F.fc.c⟩), some (.row ⟨95, 1, true, 151, fun _ => F.fc.c⟩)]⟩) (fun k => F.is.length - k.1) ⟨0, by omega⟩ [0, 1] ?_ ?_
      · (refine Wk.ofC ?_; simp -dsimp +decide (disch := first | omega | simp +decide only [helpb7]) only [helpb11, ↓brun_b, Nat.reduceAdd, Nat.reduceBEq, Frm.fc])
      · rintro ⟨k, hk⟩
        refine goC ?_
        simp -dsimp +decide (disch := first | omega | simp +decide only [helpb7]) only [helpb15, ↓brun_b, Nat.reduceAdd, Nat.reduceBEq, Frm.fc]
        refine SCond.split (fun h3 => ?_) (fun h3 => ?_)
        · simp only [decide_eq_true_eq] at h3
          have hk' : k < F.is.length := by omega
          have hw : IntKind.i64.wrap ((k : Int) + 1) = ((k + 1 : Nat) : Int) := by rw [wrap_i64 _ (by omega)]; rfl
          simp -dsimp +decide (disch := first | omega | simp +decide only [helpb7]) only [helpb10]
          refine Sem.draw' (by kernel_rfl) (.one 0 (.one 1 (.one 2 (.one 3 (.one 4 (.one 5 (.one 6 (.one 7 (.one 8 (.one 9 (.one 10 .done))))))))))) [] (by kernel_rfl) (fun G ff hG hf => ?_)
          simp +decide only [helpb13, Nat.reduceAdd] at hG ⊢
          simp -dsimp +decide (disch := first | omega | simp +decide only [helpb7]) only [helpb15, ↓brun_b, Nat.reduceAdd, Nat.reduceBEq, Nat.reduceLeDiff, sBin_agg .neq 23 _ _ _ (I16.cellsEq _ _), hG, idrs_at _ _ hk' I16.zero]
          refine And.intro (by omega) (And.intro (by omega) (And.intro (flat23 _ _) ?_))
          refine hf _ (Sem.go (k := 1000) ?_)
          simp +decide only [back_mk, backL_row, backL_nil, Nat.zero_add, Nat.reduceAdd]
          simp -dsimp +decide (disch := first | omega | simp +decide only [helpb7]) only [helpb10, ↓brun_b, Nat.reduceAdd, Nat.reduceBEq, hw]
          refine ⟨⟨k + 1, by omega⟩, [0, 1], ?_, by show F.is.length - (k + 1) < F.is.length - k; omega⟩
          (refine Wk.ofC ?_; simp -dsimp +decide (disch := first | omega | simp +decide only [helpb7]) only [helpb11, ↓brun_b, Nat.reduceAdd, Nat.reduceBEq])
        · simp only [lapp_cons, lapp_nil]
          simp -dsimp +decide (disch := first | omega | simp +decide only [helpb7]) only [helpb10, ↓brun_b, reduceIte, Nat.reduceAdd, Nat.reduceBEq, sBin_agg .eql 23 _ _ _ (I16.cellsEq _ _), sBin_agg .eql 135 _ _ _ (ceq135 _ _ _ _), sBin_agg .eql 144 _ _ _ (ceq144 _ _ _ _)]
          refine And.intro (flat144 _ _ _ _) (And.intro (flat23 _ _) (And.intro (flat23 _ _) (And.intro (flat135 _ _ _ _) (And.intro (flat135 _ _ _ _) ?_))))
          refine SemOps.callq (k := 1000) cal.f139 (sameItem_refl F.key F.vwho F.vn F.val) rfl rfl rfl rfl (by simp only [bflat_a, IC.flat]) (by simp only [bflat_a]) (dK rfl) ?_
          simp -dsimp +decide (disch := first | omega | simp +decide only [helpb7]) only [helpb10, ↓brun_b, Nat.reduceAdd, Nat.reduceBEq]
          refine SQ.answer (rs := [.tmp 4]) rfl rfl ?_
          simp -dsimp +decide (disch := first | omega | simp +decide only [helpb7]) only [helpb17, ↓brun_b, Nat.reduceAdd, rho]
def zFrm : Frm := ⟨0, I16.zero, 0, false, I16.zero, I16.zero, 0, 0, 0, 0, 0, [], [], I16.zero, 0, I16.zero, [], 0, 0, []⟩
theorem zF_ent {fz : Nat → Option SB} {ρ : Nat → Nat} : EntL fz ρ zFrm.fc.c zF.c := by
  unfold zFrm Frm.fc zF
  rw [FC.ent]
  simp only [Ent_self, flat_v, lrows, idrs, bsl, brows_nil, List.map_nil, Ent_nilsl, and_self]
end Go.Proofs
