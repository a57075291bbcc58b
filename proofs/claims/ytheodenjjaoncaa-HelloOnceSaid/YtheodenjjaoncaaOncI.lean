/- Contracts of functions that the laws reach, on abstract values, and what they need: no conditions but those that each theorem states. -/
import Derived.Test.YtheodenjjaoncaaOncH
set_option linter.unusedVariables false
set_option linter.unusedSimpArgs false
set_option linter.defProp false
namespace Go.SL
open Go
structure Wy where
  kd : Int
  sd : Int
  ii : Int
  t : List UInt8
end Go.SL
namespace Go.Proofs
open Go Go.SL
set_option maxRecDepth 100000
def wyrow (o : Wy) : List SV := [.v (.int .i64 o.kd), .v (.int .i64 o.sd), .v (.int .i64 o.ii), bsl o.t]
def wyrows (os : List Wy) : List (List SV) := os.map wyrow
theorem wyrow_len (o : Wy) : (wyrow o).length = 4 := Eq.trans rfl rfl
theorem wyrow_flat (o : Wy) : SV.flatL (wyrow o) = true := by simp [wyrow, flatL_cons, flatL_nil, flat_v, flat_rsl, flatR_brows]
theorem wyrow_one (o : Wy) : (wyrow o).all SV.one = true := by simp [wyrow, one_v, oneCell_int, one_rsl]
theorem wyrows_length (os : List Wy) : (wyrows os).length = os.length := by simp [wyrows]
theorem wyrows_flat (os : List Wy) : SV.flatR (wyrows os) = true := flatR_map _ _ wyrow_flat
theorem wyrows_at (os : List Wy) (k : Nat) (h : k < os.length) : (wyrows os).getD k [] = wyrow (os.getD k ⟨0, 0, 0, []⟩) := by
  simp [wyrows, List.getD_eq_getElem?_getD, List.getElem?_eq_getElem h]
theorem wyrow_set (o : Wy) (l : List SV) (h : l.length = 4) : splice l 0 (wyrow o) = wyrow o := splice_all _ _ (by rw [wyrow_len, h])
theorem wyrow_all (o : Wy) : spart true (wyrow o) 0 4 = .agg (wyrow o) := by simp [spart, List.take_of_length_le, wyrow_len]
theorem wyrow_eq (o : Wy) : wyrow o = [.v (.int .i64 o.kd), .v (.int .i64 o.sd), .v (.int .i64 o.ii), bsl o.t] := rfl
theorem al132 (N : Nat) : sAlloc Try.prog N 132 = some ⟨.ptr N 0 0, ⟨none, some (.row ⟨4, 1, true, 132, fun _ => [.v (.int .i64 0), .v (.int .i64 0), .v (.int .i64 0), .v (.slice none 0 0)]⟩)⟩, True⟩ := sAlloc_eq N 132 _ tab.z132 rfl
theorem al137 (N : Nat) : sAlloc Try.prog N 137 = some ⟨.ptr N 0 0, ⟨none, some (.row ⟨5, 1, true, 137, fun _ => [.v (.int .i64 0), .v (.int .i64 0), .v (.int .i64 0), .v (.int .i64 0), .v (.string ⟨#[]⟩)]⟩)⟩, True⟩ := sAlloc_eq N 137 _ tab.z137 rfl
def oi0 : I16 := ⟨[1, 0, 0, 0, 0, 0, 0, 0, 0, 0, 0, 0, 0, 0, 0, 0], rfl, by decide⟩
def oi1 : I16 := ⟨[2, 0, 0, 0, 0, 0, 0, 0, 0, 0, 0, 0, 0, 0, 0, 0], rfl, by decide⟩
theorem b23a : sBuild Try.prog 23 [(0, .v (.int .u8 1))] = some ⟨.agg oi0.c, {}, True⟩ := by
  rw [sBuild_eq, tab.z23, tab.l23]; rfl
theorem b23b : sBuild Try.prog 23 [(0, .v (.int .u8 2))] = some ⟨.agg oi1.c, {}, True⟩ := by
  rw [sBuild_eq, tab.z23, tab.l23]; rfl
theorem b123 (i j : Nat) : sBuild Try.prog 123 [(0, .ptr i 0 0), (1, .ptr j 0 0)] = some ⟨.agg [.ptr i 0 0, .ptr j 0 0], {}, True⟩ := by
  rw [sBuild_eq, tab.z123, tab.l123]; rfl
theorem b130 (i j : Nat) : sBuild Try.prog 130 [(0, .agg [.ptr i 0 0, .ptr j 0 0])] = some ⟨.agg [.ptr i 0 0, .ptr j 0 0, .v (.slice none 0 0), .v (.slice none 0 0), .v (.int .i64 0), .v (.int .i64 0), .v (.slice none 0 0), .v (.slice none 0 0), .v (.slice none 0 0), .v (.slice none 0 0)], {}, True⟩ := by
  rw [sBuild_eq, tab.z130, tab.l130]; rfl
def stdB (T : Tk) : List (Option SK) :=
  [some (.row ⟨10, 1, true, 130, fun _ => [.ptr 1 0 0, .ptr 4 0 0, .slc 7 0 (T.w false).length, .slc 8 0 (T.w true).length, .v (.int .i64 ((T.c false) : Int)), .v (.int .i64 ((T.c true) : Int)), .slc 9 0 (T.s false).length, .slc 10 0 (T.s true).length, .slc 11 0 (T.g false).length, .slc 12 0 (T.g true).length]⟩),
      some (.row ⟨39, 1, true, 204, fun _ => EC.c ⟨oi0, .v (.bool (T.e false).up), .v (.bool (T.e false).op), .v (.int .i64 (nI (T.e false).m)), .v (.int .i64 ((T.e false).m : Int)), .v (.int .i64 (nI (T.e false).p)), .v (.int .i64 ((T.e false).p : Int)), (T.e false).pid, .ptr 2 0 0⟩⟩),
      some (.row ⟨3, 1, true, 197, fun _ => [.v (.int .i64 ((T.e false).base : Int)), .slc 3 0 (T.e false).ts.length, .v (.int .i64 ((T.e false).got : Int))]⟩),
      some (.row ⟨1, (T.e false).ts.length, true, 35, trow (T.e false).ts⟩),
      some (.row ⟨39, 1, true, 204, fun _ => EC.c ⟨oi1, .v (.bool (T.e true).up), .v (.bool (T.e true).op), .v (.int .i64 (nI (T.e true).m)), .v (.int .i64 ((T.e true).m : Int)), .v (.int .i64 (nI (T.e true).p)), .v (.int .i64 ((T.e true).p : Int)), (T.e true).pid, .ptr 5 0 0⟩⟩),
      some (.row ⟨3, 1, true, 197, fun _ => [.v (.int .i64 ((T.e true).base : Int)), .slc 6 0 (T.e true).ts.length, .v (.int .i64 ((T.e true).got : Int))]⟩),
      some (.row ⟨1, (T.e true).ts.length, true, 35, trow (T.e true).ts⟩),
      some (.row ⟨95, (T.w false).length, true, 151, wrow (T.w false)⟩),
      some (.row ⟨95, (T.w true).length, true, 151, wrow (T.w true)⟩),
      some (.row ⟨5, (T.s false).length, true, 137, srow (T.s false)⟩),
      some (.row ⟨5, (T.s true).length, true, 137, srow (T.s true)⟩),
      some (.row ⟨5, (T.g false).length, true, 137, srow (T.g false)⟩),
      some (.row ⟨5, (T.g true).length, true, 137, srow (T.g true)⟩)]
theorem stdB_eq (T : Tk) : stdB T =
  [some (.row ⟨10, 1, true, 130, fun _ => [.ptr 1 0 0, .ptr 4 0 0, .slc 7 0 (T.w false).length, .slc 8 0 (T.w true).length, .v (.int .i64 ((T.c false) : Int)), .v (.int .i64 ((T.c true) : Int)), .slc 9 0 (T.s false).length, .slc 10 0 (T.s true).length, .slc 11 0 (T.g false).length, .slc 12 0 (T.g true).length]⟩),
      some (.row ⟨39, 1, true, 204, fun _ => EC.c ⟨oi0, .v (.bool (T.e false).up), .v (.bool (T.e false).op), .v (.int .i64 (nI (T.e false).m)), .v (.int .i64 ((T.e false).m : Int)), .v (.int .i64 (nI (T.e false).p)), .v (.int .i64 ((T.e false).p : Int)), (T.e false).pid, .ptr 2 0 0⟩⟩),
      some (.row ⟨3, 1, true, 197, fun _ => [.v (.int .i64 ((T.e false).base : Int)), .slc 3 0 (T.e false).ts.length, .v (.int .i64 ((T.e false).got : Int))]⟩),
      some (.row ⟨1, (T.e false).ts.length, true, 35, trow (T.e false).ts⟩),
      some (.row ⟨39, 1, true, 204, fun _ => EC.c ⟨oi1, .v (.bool (T.e true).up), .v (.bool (T.e true).op), .v (.int .i64 (nI (T.e true).m)), .v (.int .i64 ((T.e true).m : Int)), .v (.int .i64 (nI (T.e true).p)), .v (.int .i64 ((T.e true).p : Int)), (T.e true).pid, .ptr 5 0 0⟩⟩),
      some (.row ⟨3, 1, true, 197, fun _ => [.v (.int .i64 ((T.e true).base : Int)), .slc 6 0 (T.e true).ts.length, .v (.int .i64 ((T.e true).got : Int))]⟩),
      some (.row ⟨1, (T.e true).ts.length, true, 35, trow (T.e true).ts⟩),
      some (.row ⟨95, (T.w false).length, true, 151, wrow (T.w false)⟩),
      some (.row ⟨95, (T.w true).length, true, 151, wrow (T.w true)⟩),
      some (.row ⟨5, (T.s false).length, true, 137, srow (T.s false)⟩),
      some (.row ⟨5, (T.s true).length, true, 137, srow (T.s true)⟩),
      some (.row ⟨5, (T.g false).length, true, 137, srow (T.g false)⟩),
      some (.row ⟨5, (T.g true).length, true, 137, srow (T.g true)⟩)] := rfl
def opSt (os : List Wy) (i : Nat) (T : Tk) : St := ⟨134, 0, [(3, .ptr 0 0 0), (40, .rsl 4 (wyrows os)), (41, .v (.int .i64 (os.length : Int))), (42, .v (.int .i64 (i : Int)))], stdB T⟩
theorem opSt_eq (os : List Wy) (i : Nat) (T : Tk) : opSt os i T = ⟨134, 0, [(3, .ptr 0 0 0), (40, .rsl 4 (wyrows os)), (41, .v (.int .i64 (os.length : Int))), (42, .v (.int .i64 (i : Int)))],
  [some (.row ⟨10, 1, true, 130, fun _ => [.ptr 1 0 0, .ptr 4 0 0, .slc 7 0 (T.w false).length, .slc 8 0 (T.w true).length, .v (.int .i64 ((T.c false) : Int)), .v (.int .i64 ((T.c true) : Int)), .slc 9 0 (T.s false).length, .slc 10 0 (T.s true).length, .slc 11 0 (T.g false).length, .slc 12 0 (T.g true).length]⟩),
      some (.row ⟨39, 1, true, 204, fun _ => EC.c ⟨oi0, .v (.bool (T.e false).up), .v (.bool (T.e false).op), .v (.int .i64 (nI (T.e false).m)), .v (.int .i64 ((T.e false).m : Int)), .v (.int .i64 (nI (T.e false).p)), .v (.int .i64 ((T.e false).p : Int)), (T.e false).pid, .ptr 2 0 0⟩⟩),
      some (.row ⟨3, 1, true, 197, fun _ => [.v (.int .i64 ((T.e false).base : Int)), .slc 3 0 (T.e false).ts.length, .v (.int .i64 ((T.e false).got : Int))]⟩),
      some (.row ⟨1, (T.e false).ts.length, true, 35, trow (T.e false).ts⟩),
      some (.row ⟨39, 1, true, 204, fun _ => EC.c ⟨oi1, .v (.bool (T.e true).up), .v (.bool (T.e true).op), .v (.int .i64 (nI (T.e true).m)), .v (.int .i64 ((T.e true).m : Int)), .v (.int .i64 (nI (T.e true).p)), .v (.int .i64 ((T.e true).p : Int)), (T.e true).pid, .ptr 5 0 0⟩⟩),
      some (.row ⟨3, 1, true, 197, fun _ => [.v (.int .i64 ((T.e true).base : Int)), .slc 6 0 (T.e true).ts.length, .v (.int .i64 ((T.e true).got : Int))]⟩),
      some (.row ⟨1, (T.e true).ts.length, true, 35, trow (T.e true).ts⟩),
      some (.row ⟨95, (T.w false).length, true, 151, wrow (T.w false)⟩),
      some (.row ⟨95, (T.w true).length, true, 151, wrow (T.w true)⟩),
      some (.row ⟨5, (T.s false).length, true, 137, srow (T.s false)⟩),
      some (.row ⟨5, (T.s true).length, true, 137, srow (T.s true)⟩),
      some (.row ⟨5, (T.g false).length, true, 137, srow (T.g false)⟩),
      some (.row ⟨5, (T.g true).length, true, 137, srow (T.g true)⟩)]⟩ := rfl
theorem nI0 : nI 0 = 0 := rfl
theorem getD_memW (l : List Wy) (r : Nat) (d : Wy) (h : r < l.length) : l.getD r d ∈ l := by
  rw [List.getD_eq_getElem?_getD, List.getElem?_eq_getElem h, Option.getD_some]
  exact List.getElem_mem h
theorem srow_all (l : List Snt) (e : Nat) : spart true (srow l e) 0 5 = .agg (srow l e) := Eq.trans rfl rfl
theorem srow_set (l : List Snt) (e : Nat) (x : List SV) (h : x.length = 5) : splice x 0 (srow l e) = srow l e := splice_all _ _ (by rw [srow_len, h])
theorem srow_a (l : List Snt) (e : Nat) : spart true (srow l e) 0 2 = .agg [.v (.int .i64 (nI (l.getD e ⟨0, 0, []⟩).a)), .v (.int .i64 ((l.getD e ⟨0, 0, []⟩).a : Int))] := Eq.trans rfl rfl
theorem srow_b (l : List Snt) (e : Nat) : spart true (srow l e) 2 2 = .agg [.v (.int .i64 (nI (l.getD e ⟨0, 0, []⟩).b)), .v (.int .i64 ((l.getD e ⟨0, 0, []⟩).b : Int))] := Eq.trans rfl rfl
theorem srow_t (l : List Snt) (e : Nat) : cellAt (srow l e) 4 = .v (.string ⟨(l.getD e ⟨0, 0, []⟩).t.toArray⟩) := Eq.trans rfl rfl
theorem srow_one (l : List Snt) (e : Nat) : (srow l e).all SV.one = true := Eq.trans rfl rfl
theorem getD_someS (l : List Snt) (i : Nat) (h : i < l.length) : l[i]? = some (l.getD i ⟨0, 0, []⟩) := by
  rw [List.getD_eq_getElem?_getD, List.getElem?_eq_getElem h, Option.getD_some]
theorem sel_nil (a b : Nat) : sel [] a b = [] := rfl
theorem u64_mod (x : Int) : IntKind.u64.wrap x = x % 18446744073709551616 := by
  simp [IntKind.wrap, IntKind.signed, IntKind.bits]
theorem wrap_side (x : Int) : IntKind.i64.wrap ((IntKind.u64.wrap x).tmod 2) = 0 ∨ IntKind.i64.wrap ((IntKind.u64.wrap x).tmod 2) = 1 := by
  have h : 0 ≤ IntKind.u64.wrap x := by rw [u64_mod]; omega
  have h2 : (IntKind.u64.wrap x).tmod 2 = IntKind.u64.wrap x % 2 := Int.tmod_eq_emod_of_nonneg h
  rw [h2]
  rcases Int.emod_two_eq (IntKind.u64.wrap x) with h3 | h3
  · rw [h3]; exact Or.inl rfl
  · rw [h3]; exact Or.inr rfl
theorem idx_ok (x : Int) (n : Nat) (hn : n ≤ 1000) (h0 : 0 < n) : IntKind.i64.wrap ((IntKind.u64.wrap x).tmod (IntKind.u64.wrap (n : Int))) = ((IntKind.i64.wrap ((IntKind.u64.wrap x).tmod (IntKind.u64.wrap (n : Int)))).toNat : Int) ∧ (IntKind.i64.wrap ((IntKind.u64.wrap x).tmod (IntKind.u64.wrap (n : Int)))).toNat < n := by
  have h : 0 ≤ IntKind.u64.wrap x := by rw [u64_mod]; omega
  rw [wrap_u64 (n : Int) (by omega)]
  have h2 : (IntKind.u64.wrap x).tmod (n : Int) = IntKind.u64.wrap x % (n : Int) := Int.tmod_eq_emod_of_nonneg h
  rw [h2]
  have h3 : 0 ≤ IntKind.u64.wrap x % (n : Int) := Int.emod_nonneg _ (by omega)
  have h4 : IntKind.u64.wrap x % (n : Int) < (n : Int) := Int.emod_lt_of_pos _ (by omega)
  rw [wrap_i64 _ (by omega)]
  omega
def oncic0 :=
  (And.intro (And.intro (And.intro (And.intro @AD.flat (And.intro @AK.flat @CP.flat)) (And.intro @DR.flat (And.intro @EC.flat @Frm.flat))) (And.intro (And.intro @GT.flat (And.intro @H1.flat @I16.flat)) (And.intro (And.intro @IC.flat @PE.flat) (And.intro @PK.flat @PT.flat)))) (And.intro (And.intro (And.intro @RE.flat (And.intro @SU.flat @brow_flat)) (And.intro @frm_flat (And.intro @frows_flat @idrs_flat))) (And.intro (And.intro @lrows_flat (And.intro @srow_flat @trow_flat)) (And.intro (And.intro @trows_flat @wrow_flat) (And.intro @wyrow_flat @wyrows_flat)))))
def oncic1 :=
  (And.intro (And.intro @EC.c_length @FC.c_length) (And.intro @H1.c_length (And.intro @I16.c_length @trow_len)))
def oncib0 :=
  (And.intro (And.intro (And.intro (And.intro (And.intro oncic0 oncic1) (And.intro @AD.c_length (And.intro @AD.one @AK.c_length))) (And.intro (And.intro @AK.one (And.intro @CP.c_length @CP.one)) (And.intro @DR.c_length (And.intro @DR.one @EC.one)))) (And.intro (And.intro (And.intro @FC.flat_eq @FC.one_eq) (And.intro @GT.c_length (And.intro @GT.one @H1.one))) (And.intro (And.intro @I16.one (And.intro @IC.c_length @IC.one)) (And.intro @PE.c_length (And.intro @PE.one @PK.c_length))))) (And.intro (And.intro (And.intro (And.intro @PK.one @PT.c_length) (And.intro @PT.one (And.intro @RE.c_length @RE.one))) (And.intro (And.intro @SU.c_length (And.intro @SU.one @bdset_a)) (And.intro @fh_flat (And.intro @fk_flat @frm_one)))) (And.intro (And.intro (And.intro @srow_len (And.intro @srow_one @trows_length)) (And.intro @wyrow_len (And.intro @wyrow_one @wyrows_length))) (And.intro (And.intro @zD.eq_1 (And.intro @zE.eq_1 @zF.eq_1)) (And.intro @zH.eq_1 (And.intro @zK.eq_1 @zR.eq_1))))))
def oncic2 :=
  (And.intro (And.intro (And.intro (And.intro (And.intro (And.intro @EC.at_op @EC.at_up) (And.intro @EC.at_w @EC.ent)) (And.intro (And.intro @EC.part @EC.part_id) (And.intro @EC.part_mine @EC.part_peer))) (And.intro (And.intro (And.intro @EC.part_pid @EC.renc) (And.intro @EC.set_all @EC.set_mine)) (And.intro (And.intro @EC.set_op @EC.set_peer) (And.intro @EC.set_pid @EC.set_up)))) (And.intro (And.intro (And.intro (And.intro @EC.set_w @FC.part) (And.intro @FC.set_all @H1.part)) (And.intro (And.intro @H1.part_a @H1.part_from) (And.intro @H1.part_to @H1.set_all))) (And.intro (And.intro (And.intro @I16.part @Int.cast_ofNat_Int) (And.intro @List.replicate_succ.{0} @List.replicate_zero.{0})) (And.intro (And.intro @SKren_row @after_mk) (And.intro @al135 @al151))))) (And.intro (And.intro (And.intro (And.intro (And.intro @al162 @al210) (And.intro @al214 @al218)) (And.intro (And.intro @al23 @build135z) (And.intro @build151a @build151h))) (And.intro (And.intro (And.intro @build151z @build162z) (And.intro @build214 @build23z)) (And.intro (And.intro @cellAt_succ @cellAt_zero) (And.intro @mergeL_done @mergeL_own)))) (And.intro (And.intro (And.intro (And.intro @mergeL_row @mk210) (And.intro @mk214 @mk218)) (And.intro (And.intro @renL_cons @renL_flat) (And.intro @renL_nil @ren_tup))) (And.intro (And.intro (And.intro @sop_assert @sp02) (And.intro @sp05 @sp22)) (And.intro (And.intro @splice_0 @splice_c) (And.intro @splice_s @trow_cell))))))
def oncic3 :=
  (And.intro (And.intro (And.intro (And.intro (And.intro (And.intro @beq_self_eq_true.{0} @brun_a) (And.intro @cond_false.{1} @cond_true.{1})) (And.intro (And.intro @tab.a121 @tab.a124) (And.intro @tab.a127 @tab.a132))) (And.intro (And.intro (And.intro @tab.a135 @tab.a137) (And.intro @tab.a151 @tab.a2)) (And.intro (And.intro @tab.a23 @tab.a3) (And.intro @tab.a35 (And.intro @tab.a4 @tab.a5))))) (And.intro (And.intro (And.intro (And.intro @tab.a9 @tab.f130x0) (And.intro @tab.f130x1 @tab.f130x2)) (And.intro (And.intro @tab.f130x3 @tab.f130x4) (And.intro @tab.f132x0 @tab.f132x1))) (And.intro (And.intro (And.intro @tab.f132x2 @tab.f132x3) (And.intro @tab.f135x0 @tab.f135x1)) (And.intro (And.intro @tab.f137x0 @tab.f137x1) (And.intro @tab.f137x2 (And.intro @tab.f151x0 @tab.f151x13)))))) (And.intro (And.intro (And.intro (And.intro (And.intro @tab.f151x3 @tab.f151x5) (And.intro @tab.f151x6 @tab.f151x7)) (And.intro (And.intro @tab.s121 @tab.s124) (And.intro @tab.s127 @tab.s132))) (And.intro (And.intro (And.intro @tab.s135 @tab.s137) (And.intro @tab.s151 @tab.s2)) (And.intro (And.intro @tab.s23 @tab.s3) (And.intro @tab.s35 (And.intro @tab.s4 @tab.s5))))) (And.intro (And.intro (And.intro (And.intro @tab.s9 @tab.u119) (And.intro @tab.u121 @tab.u123)) (And.intro (And.intro @tab.u124 @tab.u125) (And.intro @tab.u126 (And.intro @tab.u127 @tab.u128)))) (And.intro (And.intro (And.intro @tab.u132 @tab.u135) (And.intro @tab.u2 @tab.u23)) (And.intro (And.intro @tab.u3 @tab.u35) (And.intro @tab.u4 (And.intro @tab.u5 @tab.u9)))))))
def oncib1 :=
  (And.intro (And.intro (And.intro oncic2 (And.intro oncic1 oncic3)) (And.intro (And.intro @al132 @b23a) (And.intro @b23b @fh_flat))) (And.intro (And.intro (And.intro @fk_flat @hw10) (And.intro @hw11 @srow_len)) (And.intro (And.intro @wyrow_all @wyrow_len) (And.intro @wyrow_set @wyrows_length))))
def oncib2 :=
  (And.intro (And.intro (And.intro oncic2 oncic1) (And.intro oncic3 (And.intro @bwk_a @eq_self.{1}))) (And.intro (And.intro @fh_flat @fk_flat) (And.intro @forall_const.{1} (And.intro @implies_true.{0} @implies_true.{1}))))
def oncib4 :=
  (And.intro (And.intro (And.intro oncic2 (And.intro oncic1 oncic3)) (And.intro (And.intro @al132 @b123) (And.intro @b130 @fh_flat))) (And.intro (And.intro (And.intro @fk_flat @hw10) (And.intro @hw11 @srow_len)) (And.intro (And.intro @wyrow_all @wyrow_len) (And.intro @wyrow_set @wyrows_length))))
def oncib5 :=
  (And.intro oncic0 (And.intro @fh_flat @fk_flat))
def oncib6 :=
  (And.intro (And.intro (And.intro oncic2 (And.intro oncic1 oncic3)) (And.intro @al132 (And.intro @fh_flat @fk_flat))) (And.intro (And.intro @hw10 (And.intro @hw11 @srow_len)) (And.intro (And.intro @wyrow_all @wyrow_len) (And.intro @wyrow_set @wyrows_length))))
def oncib7 :=
  (And.intro (And.intro (And.intro (And.intro oncic2 oncic1) (And.intro oncic3 (And.intro @al132 @bwk_a))) (And.intro (And.intro @eq_self.{1} @fh_flat) (And.intro @fk_flat (And.intro @forall_const.{1} @hw10)))) (And.intro (And.intro (And.intro @hw11 @implies_true.{0}) (And.intro @implies_true.{1} (And.intro @nI0 @opSt_eq))) (And.intro (And.intro @srow_len @wyrow_all) (And.intro @wyrow_len (And.intro @wyrow_set @wyrows_length)))))
def oncib8 :=
  (And.intro (And.intro (And.intro oncic2 (And.intro oncic1 oncic3)) (And.intro (And.intro @al132 @fh_flat) (And.intro @fk_flat @hw10))) (And.intro (And.intro @hw11 (And.intro @srow_len @wyrow_all)) (And.intro (And.intro @wyrow_len @wyrow_set) (And.intro @wyrows_at @wyrows_length))))
def oncib9 :=
  (And.intro (And.intro (And.intro (And.intro oncic2 oncic1) (And.intro oncic3 @al132)) (And.intro (And.intro @bwk_a @eq_self.{1}) (And.intro @fh_flat (And.intro @fk_flat @forall_const.{1})))) (And.intro (And.intro (And.intro @hw10 @hw11) (And.intro @implies_true.{0} (And.intro @implies_true.{1} @srow_len))) (And.intro (And.intro @stdB_eq @wyrow_all) (And.intro @wyrow_len (And.intro @wyrow_set @wyrows_length)))))
def oncib10 :=
  (And.intro (And.intro (And.intro oncic2 (And.intro oncic1 oncic3)) (And.intro @bwk_a (And.intro @eq_self.{1} @fh_flat))) (And.intro (And.intro @fk_flat (And.intro @forall_const.{1} @hw10)) (And.intro (And.intro @hw11 @implies_true.{0}) (And.intro @implies_true.{1} @srow_len))))
def oncib11 :=
  (And.intro (And.intro (And.intro (And.intro oncic2 oncic1) (And.intro oncic3 @al132)) (And.intro (And.intro @bwk_a @eq_self.{1}) (And.intro @fh_flat (And.intro @fk_flat @forall_const.{1})))) (And.intro (And.intro (And.intro @hw10 @hw11) (And.intro @implies_true.{0} (And.intro @implies_true.{1} @opSt_eq))) (And.intro (And.intro @srow_len @wyrow_all) (And.intro @wyrow_len (And.intro @wyrow_set @wyrows_length)))))
def oncib12 :=
  (And.intro (And.intro (And.intro oncic2 oncic1) (And.intro oncic3 @fh_flat)) (And.intro (And.intro @fk_flat @hw10) (And.intro @hw11 @srow_len)))
def oncib13 :=
  (And.intro (And.intro (And.intro oncic2 (And.intro oncic1 oncic3)) (And.intro (And.intro @Nat.zero_add @al137) (And.intro @fh_flat @fk_flat))) (And.intro (And.intro (And.intro @hw10 @hw11) (And.intro @srow_a @srow_all)) (And.intro (And.intro @srow_b @srow_len) (And.intro @srow_set @srow_t))))
def oncib14 :=
  (And.intro (And.intro (And.intro oncic2 (And.intro oncic1 oncic3)) (And.intro (And.intro @List.length_nil.{0} @bwk_a) (And.intro @eq_self.{1} @fh_flat))) (And.intro (And.intro (And.intro @fk_flat @forall_const.{1}) (And.intro @hw10 @hw11)) (And.intro (And.intro @implies_true.{0} @implies_true.{1}) (And.intro @sel_nil @srow_len))))
set_option maxHeartbeats 8000000 in
theorem helloOnce_calls (os : List Wy) (hb : os.length * 48 ≤ 140737488355328) (htx : ∀ o ∈ os, o.t.length ≤ 140737488355328) : Pure Try.prog 26 [.rsl 4 (wyrows os)] (.v (.bool true)) := by
  refine SCall.mk (fn := Try.f26) (by kernel_rfl) rfl (Nat.le_of_ble_eq_true (by kernel_rfl)) ?_
  refine Sem.go (k := 1000) ?_
  simp -dsimp (decide := true) (maxSteps := 1000000) (disch := first | omega | simp (decide := true) only [oncib0]) only [oncib1, ↓brun_b, envOf, reduceIte, Nat.reduceEqDiff, Nat.reduceAdd, Nat.reduceSub, Nat.reduceMul, Nat.reduceBEq, Nat.reduceLeDiff, Nat.reduceLT, Int.reduceToNat, rho]
  refine SemOps.callw [] cal.f92 (hnew_calls oi0) rfl rfl rfl (by simp -dsimp (decide := true) (maxSteps := 1000000) (disch := first | omega | simp (decide := true) only [oncib0]) only [oncib2, ↓brun_b, envOf, reduceIte, Nat.reduceEqDiff, Nat.reduceAdd, Nat.reduceSub, Nat.reduceMul, Nat.reduceBEq, Nat.reduceLeDiff, Nat.reduceLT, Int.reduceToNat, rho, frz1, ↓reduceIte]) rfl (by simp -dsimp (decide := true) (maxSteps := 1000000) (disch := first | omega | simp (decide := true) only [oncib0]) only [oncib2, ↓brun_b, envOf, reduceIte, Nat.reduceEqDiff, Nat.reduceAdd, Nat.reduceSub, Nat.reduceMul, Nat.reduceBEq, Nat.reduceLeDiff, Nat.reduceLT, Int.reduceToNat, rho, frz1, ↓reduceIte]) (by simp -dsimp (decide := true) (maxSteps := 1000000) (disch := first | omega | simp (decide := true) only [oncib0]) only [oncic3, ↓brun_b, envOf, reduceIte, Nat.reduceEqDiff, Nat.reduceAdd, Nat.reduceSub, Nat.reduceMul, Nat.reduceBEq, Nat.reduceLeDiff, Nat.reduceLT, Int.reduceToNat]) ?_
  refine SemOps.go (k := 1000) ?_
  simp -dsimp (decide := true) (maxSteps := 1000000) (disch := first | omega | simp (decide := true) only [oncib0]) only [oncib1, ↓brun_b, envOf, reduceIte, Nat.reduceEqDiff, Nat.reduceAdd, Nat.reduceSub, Nat.reduceMul, Nat.reduceBEq, Nat.reduceLeDiff, Nat.reduceLT, Int.reduceToNat, rho]
  refine SemOps.callw [] cal.f92 (hnew_calls oi1) rfl rfl rfl (by simp -dsimp (decide := true) (maxSteps := 1000000) (disch := first | omega | simp (decide := true) only [oncib0]) only [oncib2, ↓brun_b, envOf, reduceIte, Nat.reduceEqDiff, Nat.reduceAdd, Nat.reduceSub, Nat.reduceMul, Nat.reduceBEq, Nat.reduceLeDiff, Nat.reduceLT, Int.reduceToNat, rho, frz1, ↓reduceIte]) rfl (by simp -dsimp (decide := true) (maxSteps := 1000000) (disch := first | omega | simp (decide := true) only [oncib0]) only [oncib2, ↓brun_b, envOf, reduceIte, Nat.reduceEqDiff, Nat.reduceAdd, Nat.reduceSub, Nat.reduceMul, Nat.reduceBEq, Nat.reduceLeDiff, Nat.reduceLT, Int.reduceToNat, rho, frz1, ↓reduceIte]) (by simp -dsimp (decide := true) (maxSteps := 1000000) (disch := first | omega | simp (decide := true) only [oncib0]) only [oncic3, ↓brun_b, envOf, reduceIte, Nat.reduceEqDiff, Nat.reduceAdd, Nat.reduceSub, Nat.reduceMul, Nat.reduceBEq, Nat.reduceLeDiff, Nat.reduceLT, Int.reduceToNat]) ?_
  refine SemOps.go (k := 1000) ?_
  simp -dsimp (decide := true) (maxSteps := 1000000) (disch := first | omega | simp (decide := true) only [oncib0]) only [oncib4, ↓brun_b, envOf, reduceIte, Nat.reduceEqDiff, Nat.reduceAdd, Nat.reduceSub, Nat.reduceMul, Nat.reduceBEq, Nat.reduceLeDiff, Nat.reduceLT, Int.reduceToNat, rho]
  refine Lent.ops (Lent.ghostB 6 2 95 151 rfl rfl) ?_
  refine Lent.ops (Lent.ghostB 6 3 95 151 rfl rfl) ?_
  refine Lent.ops (Lent.ghostB 6 6 5 137 rfl rfl) ?_
  refine Lent.ops (Lent.ghostB 6 7 5 137 rfl rfl) ?_
  refine Lent.ops (Lent.ghostB 6 8 5 137 rfl rfl) ?_
  refine Lent.ops (Lent.ghostB 6 9 5 137 rfl rfl) ?_
  refine SemOps.callq (k := 1000) cal.f93 (helloFixed_calls) rfl rfl rfl rfl (by simp only [bflat_a, oncib5]) (by simp only [bflat_a, oncib5]) (by simp -dsimp (decide := true) (maxSteps := 1000000) (disch := first | omega | simp (decide := true) only [oncib0]) only [oncic3, ↓brun_b, envOf, reduceIte, Nat.reduceEqDiff, Nat.reduceAdd, Nat.reduceSub, Nat.reduceMul, Nat.reduceBEq, Nat.reduceLeDiff, Nat.reduceLT, Int.reduceToNat]) ?_
  simp -dsimp (decide := true) (maxSteps := 1000000) (disch := first | omega | simp (decide := true) only [oncib0]) only [oncib6, ↓brun_b, envOf, reduceIte, Nat.reduceEqDiff, Nat.reduceAdd, Nat.reduceSub, Nat.reduceMul, Nat.reduceBEq, Nat.reduceLeDiff, Nat.reduceLT, Int.reduceToNat, rho]
  refine Sem.cutJ [_, _] (fun s' => ∃ (T : Tk) (k : Nat), k ≤ 500 ∧ TkAll T k ∧ ∃ l', Wk l' s' ⟨134, 0, [(3, .ptr 0 0 0)], stdB T⟩) ?_ ?_
  · refine Sem.loop (ι := {p : Nat × Tk // p.1 ≤ os.length ∧ p.1 ≤ 402 ∧ TkAll p.2 p.1}) (fun p => opSt os p.1.1 p.1.2) (fun p => os.length - p.1.1) ⟨(0, Tk.start), Nat.zero_le _, Nat.zero_le _, start_all⟩ [6, 0, 1, 2, 3, 4, 5, 7, 8, 9, 10, 11, 12] ?_ ?_
    · (refine Wk.ofC ?_; simp -dsimp (decide := true) (maxSteps := 1000000) (disch := first | omega | simp (decide := true) only [oncib0]) only [oncib7, ↓brun_b, envOf, reduceIte, Nat.reduceEqDiff, Nat.reduceAdd, Nat.reduceSub, Nat.reduceMul, Nat.reduceBEq, Nat.reduceLeDiff, Nat.reduceLT, Int.reduceToNat, rho, Tk.start, En.down, frz1, ↓reduceIte])
    · rintro ⟨⟨i, T⟩, h1, h2, hall⟩
      simp only at h1 h2 hall
      rw [opSt_eq]
      refine Sem.go (k := 1000) ?_
      simp -dsimp (decide := true) (maxSteps := 1000000) (disch := first | omega | simp (decide := true) only [oncib0]) only [oncib6, ↓brun_b, envOf, reduceIte, Nat.reduceEqDiff, Nat.reduceAdd, Nat.reduceSub, Nat.reduceMul, Nat.reduceBEq, Nat.reduceLeDiff, Nat.reduceLT, Int.reduceToNat, rho]
      refine SCond.split (fun h => ?_) (fun h => ?_)
      · simp only [decide_eq_true_eq] at h
        have hi' : i < os.length := by omega
        have hwi : IntKind.i64.wrap ((i : Int) + 1) = ((i + 1 : Nat) : Int) := by rw [wrap_i64 _ (by omega)]; rfl
        have hot := htx _ (getD_memW os i ⟨0, 0, 0, []⟩ hi')
        simp -dsimp (decide := true) (maxSteps := 1000000) (disch := first | omega | simp (decide := true) only [oncib0]) only [oncib8, ↓brun_b, envOf, reduceIte, Nat.reduceEqDiff, Nat.reduceAdd, Nat.reduceSub, Nat.reduceMul, Nat.reduceBEq, Nat.reduceLeDiff, Nat.reduceLT, Int.reduceToNat, rho]
        generalize os.getD i ⟨0, 0, 0, []⟩ = o at *
        refine And.intro (by omega) ?_
        refine SCond.split (fun h3 => ?_) (fun h3 => ?_)
        · simp -dsimp (decide := true) (maxSteps := 1000000) (disch := first | omega | simp (decide := true) only [oncib0]) only [oncib6, ↓brun_b, envOf, reduceIte, Nat.reduceEqDiff, Nat.reduceAdd, Nat.reduceSub, Nat.reduceMul, Nat.reduceBEq, Nat.reduceLeDiff, Nat.reduceLT, Int.reduceToNat, rho]
          refine ⟨T, i, by omega, hall, [0, 1, 2, 3, 4, 5, 6, 7, 8, 9, 10, 11, 12], ?_⟩
          (refine Wk.ofC ?_; simp -dsimp (decide := true) (maxSteps := 1000000) (disch := first | omega | simp (decide := true) only [oncib0]) only [oncib9, ↓brun_b, envOf, reduceIte, Nat.reduceEqDiff, Nat.reduceAdd, Nat.reduceSub, Nat.reduceMul, Nat.reduceBEq, Nat.reduceLeDiff, Nat.reduceLT, Int.reduceToNat, rho, frz1, ↓reduceIte])
        · simp only [decide_eq_false_iff_not] at h3
          simp -dsimp (decide := true) (maxSteps := 1000000) (disch := first | omega | simp (decide := true) only [oncib0]) only [oncib6, ↓brun_b, envOf, reduceIte, Nat.reduceEqDiff, Nat.reduceAdd, Nat.reduceSub, Nat.reduceMul, Nat.reduceBEq, Nat.reduceLeDiff, Nat.reduceLT, Int.reduceToNat, rho]
          rcases wrap_side o.sd with hs | hs
          · have hp := play0 oi0 oi1 T o.kd o.sd o.ii o.t (IntKind.i64.wrap ((IntKind.u64.wrap o.ii).tmod (IntKind.u64.wrap ((T.w false).length : Int)))).toNat _ hs (idx_ok o.ii (T.w false).length (by have := hall.le.w false; omega)) rfl (hall.le.w false)
              (by have := hall.b.b false; have := hall.le.s false; omega) (by have := hall.b.g false; have := hall.le.g false; omega) (by have := hall.le.c false; omega) (by have := hall.le.g false; omega) (by have := hall.le.s false; omega)
              (hall.ts false) hot (hall.da (by omega) false) (hall.ak (by omega) false) _ rfl
            have hnx := play_all hall oi0 false o.kd (IntKind.i64.wrap ((IntKind.u64.wrap o.ii).tmod (IntKind.u64.wrap ((T.w false).length : Int)))).toNat o.t (fun h => (idx_ok o.ii (T.w false).length (by have := hall.le.w false; omega) h).2)
            generalize playT oi0 T false o.kd _ o.t = T' at *
            rw [← wyrow_eq] at hp
            refine SemOps.callw [0, 1, 2, 3, 4, 5, 6, 7, 8, 9, 10, 11, 12] cal.f94 (hp) rfl rfl rfl (by simp -dsimp (decide := true) (maxSteps := 1000000) (disch := first | omega | simp (decide := true) only [oncib0]) only [oncib10, ↓brun_b, envOf, reduceIte, Nat.reduceEqDiff, Nat.reduceAdd, Nat.reduceSub, Nat.reduceMul, Nat.reduceBEq, Nat.reduceLeDiff, Nat.reduceLT, Int.reduceToNat, rho, frz1, ↓reduceIte]) rfl (by simp -dsimp (decide := true) (maxSteps := 1000000) (disch := first | omega | simp (decide := true) only [oncib0]) only [oncib10, ↓brun_b, envOf, reduceIte, Nat.reduceEqDiff, Nat.reduceAdd, Nat.reduceSub, Nat.reduceMul, Nat.reduceBEq, Nat.reduceLeDiff, Nat.reduceLT, Int.reduceToNat, rho, frz1, ↓reduceIte]) (by simp -dsimp (decide := true) (maxSteps := 1000000) (disch := first | omega | simp (decide := true) only [oncib0]) only [oncic3, ↓brun_b, envOf, reduceIte, Nat.reduceEqDiff, Nat.reduceAdd, Nat.reduceSub, Nat.reduceMul, Nat.reduceBEq, Nat.reduceLeDiff, Nat.reduceLT, Int.reduceToNat]) ?_
            refine SemOps.go (k := 1000) ?_
            simp -dsimp (decide := true) (maxSteps := 1000000) (disch := first | omega | simp (decide := true) only [oncib0]) only [oncib6, ↓brun_b, envOf, reduceIte, Nat.reduceEqDiff, Nat.reduceAdd, Nat.reduceSub, Nat.reduceMul, Nat.reduceBEq, Nat.reduceLeDiff, Nat.reduceLT, Int.reduceToNat, rho, hwi]
            refine ⟨⟨(i + 1, T'), by simp only; omega, by simp only; omega, hnx⟩, [0, 14, 15, 16, 17, 18, 19, 20, 21, 22, 23, 24, 25], ?_, by show os.length - (i + 1) < os.length - i; omega⟩
            (refine Wk.ofC ?_; simp -dsimp (decide := true) (maxSteps := 1000000) (disch := first | omega | simp (decide := true) only [oncib0]) only [oncib11, ↓brun_b, envOf, reduceIte, Nat.reduceEqDiff, Nat.reduceAdd, Nat.reduceSub, Nat.reduceMul, Nat.reduceBEq, Nat.reduceLeDiff, Nat.reduceLT, Int.reduceToNat, rho, frz1, ↓reduceIte])
          · have hp := play1 oi0 oi1 T o.kd o.sd o.ii o.t (IntKind.i64.wrap ((IntKind.u64.wrap o.ii).tmod (IntKind.u64.wrap ((T.w true).length : Int)))).toNat _ hs (idx_ok o.ii (T.w true).length (by have := hall.le.w true; omega)) rfl (hall.le.w true)
              (by have := hall.b.b true; have := hall.le.s true; omega) (by have := hall.b.g true; have := hall.le.g true; omega) (by have := hall.le.c true; omega) (by have := hall.le.g true; omega) (by have := hall.le.s true; omega)
              (hall.ts true) hot (hall.da (by omega) true) (hall.ak (by omega) true) _ rfl
            have hnx := play_all hall oi1 true o.kd (IntKind.i64.wrap ((IntKind.u64.wrap o.ii).tmod (IntKind.u64.wrap ((T.w true).length : Int)))).toNat o.t (fun h => (idx_ok o.ii (T.w true).length (by have := hall.le.w true; omega) h).2)
            generalize playT oi1 T true o.kd _ o.t = T' at *
            rw [← wyrow_eq] at hp
            refine SemOps.callw [0, 1, 2, 3, 4, 5, 6, 7, 8, 9, 10, 11, 12] cal.f94 (hp) rfl rfl rfl (by simp -dsimp (decide := true) (maxSteps := 1000000) (disch := first | omega | simp (decide := true) only [oncib0]) only [oncib10, ↓brun_b, envOf, reduceIte, Nat.reduceEqDiff, Nat.reduceAdd, Nat.reduceSub, Nat.reduceMul, Nat.reduceBEq, Nat.reduceLeDiff, Nat.reduceLT, Int.reduceToNat, rho, frz1, ↓reduceIte]) rfl (by simp -dsimp (decide := true) (maxSteps := 1000000) (disch := first | omega | simp (decide := true) only [oncib0]) only [oncib10, ↓brun_b, envOf, reduceIte, Nat.reduceEqDiff, Nat.reduceAdd, Nat.reduceSub, Nat.reduceMul, Nat.reduceBEq, Nat.reduceLeDiff, Nat.reduceLT, Int.reduceToNat, rho, frz1, ↓reduceIte]) (by simp -dsimp (decide := true) (maxSteps := 1000000) (disch := first | omega | simp (decide := true) only [oncib0]) only [oncic3, ↓brun_b, envOf, reduceIte, Nat.reduceEqDiff, Nat.reduceAdd, Nat.reduceSub, Nat.reduceMul, Nat.reduceBEq, Nat.reduceLeDiff, Nat.reduceLT, Int.reduceToNat]) ?_
            refine SemOps.go (k := 1000) ?_
            simp -dsimp (decide := true) (maxSteps := 1000000) (disch := first | omega | simp (decide := true) only [oncib0]) only [oncib6, ↓brun_b, envOf, reduceIte, Nat.reduceEqDiff, Nat.reduceAdd, Nat.reduceSub, Nat.reduceMul, Nat.reduceBEq, Nat.reduceLeDiff, Nat.reduceLT, Int.reduceToNat, rho, hwi]
            refine ⟨⟨(i + 1, T'), by simp only; omega, by simp only; omega, hnx⟩, [0, 14, 15, 16, 17, 18, 19, 20, 21, 22, 23, 24, 25], ?_, by show os.length - (i + 1) < os.length - i; omega⟩
            (refine Wk.ofC ?_; simp -dsimp (decide := true) (maxSteps := 1000000) (disch := first | omega | simp (decide := true) only [oncib0]) only [oncib11, ↓brun_b, envOf, reduceIte, Nat.reduceEqDiff, Nat.reduceAdd, Nat.reduceSub, Nat.reduceMul, Nat.reduceBEq, Nat.reduceLeDiff, Nat.reduceLT, Int.reduceToNat, rho, frz1, ↓reduceIte])
      · simp -dsimp (decide := true) (maxSteps := 1000000) (disch := first | omega | simp (decide := true) only [oncib0]) only [oncib6, ↓brun_b, envOf, reduceIte, Nat.reduceEqDiff, Nat.reduceAdd, Nat.reduceSub, Nat.reduceMul, Nat.reduceBEq, Nat.reduceLeDiff, Nat.reduceLT, Int.reduceToNat, rho]
        refine ⟨T, i, by omega, hall, [0, 1, 2, 3, 4, 5, 6, 7, 8, 9, 10, 11, 12], ?_⟩
        (refine Wk.ofC ?_; simp -dsimp (decide := true) (maxSteps := 1000000) (disch := first | omega | simp (decide := true) only [oncib0]) only [oncib9, ↓brun_b, envOf, reduceIte, Nat.reduceEqDiff, Nat.reduceAdd, Nat.reduceSub, Nat.reduceMul, Nat.reduceBEq, Nat.reduceLeDiff, Nat.reduceLT, Int.reduceToNat, rho, frz1, ↓reduceIte])
  · rintro s' ⟨T, k, hk, hall, l', hwk⟩
    refine Sem.weaken l' hwk ?_
    rw [stdB_eq]
    refine Sem.go (k := 1000) ?_
    simp -dsimp (decide := true) (maxSteps := 1000000) (disch := first | omega | simp (decide := true) only [oncib0]) only [oncib12, ↓brun_b, envOf, reduceIte, Nat.reduceEqDiff, Nat.reduceAdd, Nat.reduceSub, Nat.reduceMul, Nat.reduceBEq, Nat.reduceLeDiff, Nat.reduceLT, Int.reduceToNat, rho]
    have hgl0 := hall.le.g false
    have hgl1 := hall.le.g true
    have hsl0 := hall.le.s false
    have hsl1 := hall.le.s true
    refine Sem.loop (ι := {s : Nat // s ≤ 2}) (fun s => ⟨134, 0, [(3, .ptr 0 0 0), (53, .v (.int .i64 (s.1 : Int)))], [some (.row ⟨10, 1, true, 130, fun _ => [.ptr 1 0 0, .ptr 4 0 0, .slc 7 0 (T.w false).length, .slc 8 0 (T.w true).length, .v (.int .i64 ((T.c false) : Int)), .v (.int .i64 ((T.c true) : Int)), .slc 9 0 (T.s false).length, .slc 10 0 (T.s true).length, .slc 11 0 (T.g false).length, .slc 12 0 (T.g true).length]⟩),
          some (.row ⟨39, 1, true, 204, fun _ => EC.c ⟨oi0, .v (.bool (T.e false).up), .v (.bool (T.e false).op), .v (.int .i64 (nI (T.e false).m)), .v (.int .i64 ((T.e false).m : Int)), .v (.int .i64 (nI (T.e false).p)), .v (.int .i64 ((T.e false).p : Int)), (T.e false).pid, .ptr 2 0 0⟩⟩),
          some (.row ⟨3, 1, true, 197, fun _ => [.v (.int .i64 ((T.e false).base : Int)), .slc 3 0 (T.e false).ts.length, .v (.int .i64 ((T.e false).got : Int))]⟩),
          some (.row ⟨1, (T.e false).ts.length, true, 35, trow (T.e false).ts⟩),
          some (.row ⟨39, 1, true, 204, fun _ => EC.c ⟨oi1, .v (.bool (T.e true).up), .v (.bool (T.e true).op), .v (.int .i64 (nI (T.e true).m)), .v (.int .i64 ((T.e true).m : Int)), .v (.int .i64 (nI (T.e true).p)), .v (.int .i64 ((T.e true).p : Int)), (T.e true).pid, .ptr 5 0 0⟩⟩),
          some (.row ⟨3, 1, true, 197, fun _ => [.v (.int .i64 ((T.e true).base : Int)), .slc 6 0 (T.e true).ts.length, .v (.int .i64 ((T.e true).got : Int))]⟩),
          some (.row ⟨1, (T.e true).ts.length, true, 35, trow (T.e true).ts⟩),
          some (.row ⟨95, (T.w false).length, true, 151, wrow (T.w false)⟩),
          some (.row ⟨95, (T.w true).length, true, 151, wrow (T.w true)⟩),
          some (.row ⟨5, (T.s false).length, true, 137, srow (T.s false)⟩),
          some (.row ⟨5, (T.s true).length, true, 137, srow (T.s true)⟩),
          some (.row ⟨5, (T.g false).length, true, 137, srow (T.g false)⟩),
          some (.row ⟨5, (T.g true).length, true, 137, srow (T.g true)⟩)]⟩) (fun s => 2 - s.1) ⟨0, by omega⟩ [0, 1, 2, 3, 4, 5, 6, 7, 8, 9, 10, 11, 12] ?_ ?_
    · (refine Wk.ofC ?_; simp -dsimp (decide := true) (maxSteps := 1000000) (disch := first | omega | simp (decide := true) only [oncib0]) only [oncib10, ↓brun_b, envOf, reduceIte, Nat.reduceEqDiff, Nat.reduceAdd, Nat.reduceSub, Nat.reduceMul, Nat.reduceBEq, Nat.reduceLeDiff, Nat.reduceLT, Int.reduceToNat, rho, frz1, ↓reduceIte])
    · rintro ⟨s, hs⟩
      have hw0 : IntKind.i64.wrap (0 + 1) = 1 := rfl
      have hw1 : IntKind.i64.wrap (1 + 1) = 2 := rfl
      obtain rfl | rfl | rfl : s = 0 ∨ s = 1 ∨ s = 2 := by omega
      · refine Sem.go (k := 1000) ?_
        simp -dsimp (decide := true) (maxSteps := 1000000) (disch := first | omega | simp (decide := true) only [oncib0]) only [oncib13, ↓brun_b, envOf, reduceIte, Nat.reduceEqDiff, Nat.reduceAdd, Nat.reduceSub, Nat.reduceMul, Nat.reduceBEq, Nat.reduceLeDiff, Nat.reduceLT, Int.reduceToNat, rho]
        refine Sem.loop (ι := {i : Nat // i ≤ (T.g false).length}) (fun i => ⟨134, 0, [(3, .ptr 0 0 0), (53, .v (.int .i64 0)), (6, .v (.int .i64 0)), (61, .slc 11 0 (T.g false).length), (62, .v (.int .i64 ((T.g false).length : Int))), (63, .v (.int .i64 (i.1 : Int)))], [some (.row ⟨10, 1, true, 130, fun _ => [.ptr 1 0 0, .ptr 4 0 0, .slc 7 0 (T.w false).length, .slc 8 0 (T.w true).length, .v (.int .i64 ((T.c false) : Int)), .v (.int .i64 ((T.c true) : Int)), .slc 9 0 (T.s false).length, .slc 10 0 (T.s true).length, .slc 11 0 (T.g false).length, .slc 12 0 (T.g true).length]⟩),
              some (.row ⟨39, 1, true, 204, fun _ => EC.c ⟨oi0, .v (.bool (T.e false).up), .v (.bool (T.e false).op), .v (.int .i64 (nI (T.e false).m)), .v (.int .i64 ((T.e false).m : Int)), .v (.int .i64 (nI (T.e false).p)), .v (.int .i64 ((T.e false).p : Int)), (T.e false).pid, .ptr 2 0 0⟩⟩),
              some (.row ⟨3, 1, true, 197, fun _ => [.v (.int .i64 ((T.e false).base : Int)), .slc 3 0 (T.e false).ts.length, .v (.int .i64 ((T.e false).got : Int))]⟩),
              some (.row ⟨1, (T.e false).ts.length, true, 35, trow (T.e false).ts⟩),
              some (.row ⟨39, 1, true, 204, fun _ => EC.c ⟨oi1, .v (.bool (T.e true).up), .v (.bool (T.e true).op), .v (.int .i64 (nI (T.e true).m)), .v (.int .i64 ((T.e true).m : Int)), .v (.int .i64 (nI (T.e true).p)), .v (.int .i64 ((T.e true).p : Int)), (T.e true).pid, .ptr 5 0 0⟩⟩),
              some (.row ⟨3, 1, true, 197, fun _ => [.v (.int .i64 ((T.e true).base : Int)), .slc 6 0 (T.e true).ts.length, .v (.int .i64 ((T.e true).got : Int))]⟩),
              some (.row ⟨1, (T.e true).ts.length, true, 35, trow (T.e true).ts⟩),
              some (.row ⟨95, (T.w false).length, true, 151, wrow (T.w false)⟩),
              some (.row ⟨95, (T.w true).length, true, 151, wrow (T.w true)⟩),
              some (.row ⟨5, (T.s false).length, true, 137, srow (T.s false)⟩),
              some (.row ⟨5, (T.s true).length, true, 137, srow (T.s true)⟩),
              some (.row ⟨5, (T.g false).length, true, 137, srow (T.g false)⟩),
              some (.row ⟨5, (T.g true).length, true, 137, srow (T.g true)⟩)]⟩) (fun i => (T.g false).length - i.1) ⟨0, Nat.zero_le _⟩ [0, 1, 2, 3, 4, 5, 6, 7, 8, 9, 10, 11, 12] ?_ ?_
        · (refine Wk.ofC ?_; simp -dsimp (decide := true) (maxSteps := 1000000) (disch := first | omega | simp (decide := true) only [oncib0]) only [oncib10, ↓brun_b, envOf, reduceIte, Nat.reduceEqDiff, Nat.reduceAdd, Nat.reduceSub, Nat.reduceMul, Nat.reduceBEq, Nat.reduceLeDiff, Nat.reduceLT, Int.reduceToNat, rho, frz1, ↓reduceIte])
        · rintro ⟨i, hi⟩
          refine Sem.go (k := 1000) ?_
          simp -dsimp (decide := true) (maxSteps := 1000000) (disch := first | omega | simp (decide := true) only [oncib0]) only [oncib12, ↓brun_b, envOf, reduceIte, Nat.reduceEqDiff, Nat.reduceAdd, Nat.reduceSub, Nat.reduceMul, Nat.reduceBEq, Nat.reduceLeDiff, Nat.reduceLT, Int.reduceToNat, rho]
          refine SCond.split (fun h1 => ?_) (fun h1 => ?_)
          · simp only [decide_eq_true_eq] at h1
            have hi' : i < (T.g false).length := by omega
            have hwi : IntKind.i64.wrap ((i : Int) + 1) = ((i + 1 : Nat) : Int) := by rw [wrap_i64 _ (by omega)]; rfl
            have hx := getD_someS (T.g false) i hi'
            obtain ⟨x, hxd⟩ : ∃ x, (T.g false).getD i ⟨0, 0, []⟩ = x := ⟨_, rfl⟩
            rw [hxd] at hx
            have ht1 : ((i : Int) - 0).toNat = i := by omega
            simp -dsimp (decide := true) (maxSteps := 1000000) (disch := first | omega | simp (decide := true) only [oncib0]) only [oncib13, ↓brun_b, envOf, reduceIte, Nat.reduceEqDiff, Nat.reduceAdd, Nat.reduceSub, Nat.reduceMul, Nat.reduceBEq, Nat.reduceLeDiff, Nat.reduceLT, Int.reduceToNat, rho, ht1]
            refine And.intro (by omega) (And.intro hi' (And.intro (by omega) ?_))
            refine Sem.loop (ι := {j : Nat // j ≤ i}) (fun j => ⟨134, 0, [(3, .ptr 0 0 0), (53, .v (.int .i64 0)), (6, .v (.int .i64 0)), (61, .slc 11 0 (T.g false).length), (62, .v (.int .i64 ((T.g false).length : Int))), (63, .v (.int .i64 (i : Int))), (8, .ptr 13 0 0), (75, .slc 11 0 i), (76, .v (.int .i64 (i : Int))), (77, .v (.int .i64 (j.1 : Int))), (9, .v (.int .i64 ((sel ((T.g false).take j.1) x.a x.b).length : Int)))], [some (.row ⟨10, 1, true, 130, fun _ => [.ptr 1 0 0, .ptr 4 0 0, .slc 7 0 (T.w false).length, .slc 8 0 (T.w true).length, .v (.int .i64 ((T.c false) : Int)), .v (.int .i64 ((T.c true) : Int)), .slc 9 0 (T.s false).length, .slc 10 0 (T.s true).length, .slc 11 0 (T.g false).length, .slc 12 0 (T.g true).length]⟩),
              some (.row ⟨39, 1, true, 204, fun _ => EC.c ⟨oi0, .v (.bool (T.e false).up), .v (.bool (T.e false).op), .v (.int .i64 (nI (T.e false).m)), .v (.int .i64 ((T.e false).m : Int)), .v (.int .i64 (nI (T.e false).p)), .v (.int .i64 ((T.e false).p : Int)), (T.e false).pid, .ptr 2 0 0⟩⟩),
              some (.row ⟨3, 1, true, 197, fun _ => [.v (.int .i64 ((T.e false).base : Int)), .slc 3 0 (T.e false).ts.length, .v (.int .i64 ((T.e false).got : Int))]⟩),
              some (.row ⟨1, (T.e false).ts.length, true, 35, trow (T.e false).ts⟩),
              some (.row ⟨39, 1, true, 204, fun _ => EC.c ⟨oi1, .v (.bool (T.e true).up), .v (.bool (T.e true).op), .v (.int .i64 (nI (T.e true).m)), .v (.int .i64 ((T.e true).m : Int)), .v (.int .i64 (nI (T.e true).p)), .v (.int .i64 ((T.e true).p : Int)), (T.e true).pid, .ptr 5 0 0⟩⟩),
              some (.row ⟨3, 1, true, 197, fun _ => [.v (.int .i64 ((T.e true).base : Int)), .slc 6 0 (T.e true).ts.length, .v (.int .i64 ((T.e true).got : Int))]⟩),
              some (.row ⟨1, (T.e true).ts.length, true, 35, trow (T.e true).ts⟩),
              some (.row ⟨95, (T.w false).length, true, 151, wrow (T.w false)⟩),
              some (.row ⟨95, (T.w true).length, true, 151, wrow (T.w true)⟩),
              some (.row ⟨5, (T.s false).length, true, 137, srow (T.s false)⟩),
              some (.row ⟨5, (T.s true).length, true, 137, srow (T.s true)⟩),
              some (.row ⟨5, (T.g false).length, true, 137, srow (T.g false)⟩),
              some (.row ⟨5, (T.g true).length, true, 137, srow (T.g true)⟩),
              some (.row ⟨5, 1, true, 137, fun _ => srow (T.g false) i⟩)]⟩) (fun j => i - j.1) ⟨0, Nat.zero_le _⟩ [0, 1, 2, 3, 4, 5, 6, 7, 8, 9, 10, 11, 12, 13] ?_ ?_
            · (refine Wk.ofC ?_; simp -dsimp (decide := true) (maxSteps := 1000000) (disch := first | omega | simp (decide := true) only [oncib0]) only [oncib14, ↓brun_b, envOf, reduceIte, Nat.reduceEqDiff, Nat.reduceAdd, Nat.reduceSub, Nat.reduceMul, Nat.reduceBEq, Nat.reduceLeDiff, Nat.reduceLT, Int.reduceToNat, rho, List.take_zero, frz1, ↓reduceIte])
            · rintro ⟨j, hj⟩
              refine Sem.go (k := 1000) ?_
              simp -dsimp (decide := true) (maxSteps := 1000000) (disch := first | omega | simp (decide := true) only [oncib0]) only [oncib12, ↓brun_b, envOf, reduceIte, Nat.reduceEqDiff, Nat.reduceAdd, Nat.reduceSub, Nat.reduceMul, Nat.reduceBEq, Nat.reduceLeDiff, Nat.reduceLT, Int.reduceToNat, rho]
              refine SCond.split (fun h2 => ?_) (fun h2 => ?_)
              · simp only [decide_eq_true_eq] at h2
                have hj' : j < i := by omega
                have hwj : IntKind.i64.wrap ((j : Int) + 1) = ((j + 1 : Nat) : Int) := by rw [wrap_i64 _ (by omega)]; rfl
                have hy := getD_someS (T.g false) j (by omega)
                obtain ⟨y, hyd⟩ : ∃ y, (T.g false).getD j ⟨0, 0, []⟩ = y := ⟨_, rfl⟩
                rw [hyd] at hy
                have hst := sel_step (T.g false) j y hy x.a x.b
                have hl := sel_le ((T.g false).take j) x.a x.b
                rw [List.length_take] at hl
                have hwk : IntKind.i64.wrap (((sel ((T.g false).take j) x.a x.b).length : Int) + 1) = (((sel ((T.g false).take j) x.a x.b).length + 1 : Nat) : Int) := by rw [wrap_i64 _ (by omega)]; rfl
                have n1 := nI_eq y.a x.a
                have n2 := nI_eq y.b x.b
                by_cases ha : y.a = x.a
                · rw [decide_eq_true ha] at n1
                  by_cases hb2 : y.b = x.b
                  · rw [decide_eq_true hb2] at n2
                    rw [if_pos ⟨ha, hb2⟩] at hst
                    have hst2 : (sel ((T.g false).take (j + 1)) x.a x.b).length = (sel ((T.g false).take j) x.a x.b).length + 1 := by rw [hst]; simp
                    simp -dsimp (decide := true) (maxSteps := 1000000) (disch := first | omega | simp (decide := true) only [oncib0]) only [oncib13, ↓brun_b, envOf, reduceIte, Nat.reduceEqDiff, Nat.reduceAdd, Nat.reduceSub, Nat.reduceMul, Nat.reduceBEq, Nat.reduceLeDiff, Nat.reduceLT, Int.reduceToNat, rho, sBin_agg .eql 23 _ _ _ (I16.cellsEq _ _), sBin_agg .eql 135 _ _ _ (ceq135 _ _ _ _), sBin_agg .neq 23 _ _ _ (I16.cellsEq _ _), sBin_agg .neq 135 _ _ _ (ceq135 _ _ _ _), hxd, hyd, n1, n2, hwk, hwj]
                    (repeat first | refine And.intro (by omega) ?_ | refine And.intro (flat135 _ _ _ _) ?_)
                    refine ⟨⟨j + 1, by omega⟩, [0, 1, 2, 3, 4, 5, 6, 7, 8, 9, 10, 11, 12, 13], ?_, by show i - (j + 1) < i - j; omega⟩
                    (refine Wk.ofC ?_; simp -dsimp (decide := true) (maxSteps := 1000000) (disch := first | omega | simp (decide := true) only [oncib0]) only [oncib10, ↓brun_b, envOf, reduceIte, Nat.reduceEqDiff, Nat.reduceAdd, Nat.reduceSub, Nat.reduceMul, Nat.reduceBEq, Nat.reduceLeDiff, Nat.reduceLT, Int.reduceToNat, rho, hst2, frz1, ↓reduceIte])
                  · rw [decide_eq_false hb2] at n2
                    rw [if_neg (fun h => hb2 h.2), List.append_nil] at hst
                    have hst2 : (sel ((T.g false).take (j + 1)) x.a x.b).length = (sel ((T.g false).take j) x.a x.b).length := by rw [hst]
                    simp -dsimp (decide := true) (maxSteps := 1000000) (disch := first | omega | simp (decide := true) only [oncib0]) only [oncib13, ↓brun_b, envOf, reduceIte, Nat.reduceEqDiff, Nat.reduceAdd, Nat.reduceSub, Nat.reduceMul, Nat.reduceBEq, Nat.reduceLeDiff, Nat.reduceLT, Int.reduceToNat, rho, sBin_agg .eql 23 _ _ _ (I16.cellsEq _ _), sBin_agg .eql 135 _ _ _ (ceq135 _ _ _ _), sBin_agg .neq 23 _ _ _ (I16.cellsEq _ _), sBin_agg .neq 135 _ _ _ (ceq135 _ _ _ _), hxd, hyd, n1, n2, hwk, hwj]
                    (repeat first | refine And.intro (by omega) ?_ | refine And.intro (flat135 _ _ _ _) ?_)
                    refine ⟨⟨j + 1, by omega⟩, [0, 1, 2, 3, 4, 5, 6, 7, 8, 9, 10, 11, 12, 13], ?_, by show i - (j + 1) < i - j; omega⟩
                    (refine Wk.ofC ?_; simp -dsimp (decide := true) (maxSteps := 1000000) (disch := first | omega | simp (decide := true) only [oncib0]) only [oncib10, ↓brun_b, envOf, reduceIte, Nat.reduceEqDiff, Nat.reduceAdd, Nat.reduceSub, Nat.reduceMul, Nat.reduceBEq, Nat.reduceLeDiff, Nat.reduceLT, Int.reduceToNat, rho, hst2, frz1, ↓reduceIte])
                · rw [decide_eq_false ha] at n1
                  rw [if_neg (fun h => ha h.1), List.append_nil] at hst
                  have hst2 : (sel ((T.g false).take (j + 1)) x.a x.b).length = (sel ((T.g false).take j) x.a x.b).length := by rw [hst]
                  simp -dsimp (decide := true) (maxSteps := 1000000) (disch := first | omega | simp (decide := true) only [oncib0]) only [oncib13, ↓brun_b, envOf, reduceIte, Nat.reduceEqDiff, Nat.reduceAdd, Nat.reduceSub, Nat.reduceMul, Nat.reduceBEq, Nat.reduceLeDiff, Nat.reduceLT, Int.reduceToNat, rho, sBin_agg .eql 23 _ _ _ (I16.cellsEq _ _), sBin_agg .eql 135 _ _ _ (ceq135 _ _ _ _), sBin_agg .neq 23 _ _ _ (I16.cellsEq _ _), sBin_agg .neq 135 _ _ _ (ceq135 _ _ _ _), hxd, hyd, n1, n2, hwk, hwj]
                  (repeat first | refine And.intro (by omega) ?_ | refine And.intro (flat135 _ _ _ _) ?_)
                  refine ⟨⟨j + 1, by omega⟩, [0, 1, 2, 3, 4, 5, 6, 7, 8, 9, 10, 11, 12, 13], ?_, by show i - (j + 1) < i - j; omega⟩
                  (refine Wk.ofC ?_; simp -dsimp (decide := true) (maxSteps := 1000000) (disch := first | omega | simp (decide := true) only [oncib0]) only [oncib10, ↓brun_b, envOf, reduceIte, Nat.reduceEqDiff, Nat.reduceAdd, Nat.reduceSub, Nat.reduceMul, Nat.reduceBEq, Nat.reduceLeDiff, Nat.reduceLT, Int.reduceToNat, rho, hst2, frz1, ↓reduceIte])
              · simp only [decide_eq_false_iff_not] at h2
                obtain rfl : j = i := by omega
                have hmore := hall.ok.more false j x hx
                have hgl2 := sel_le ((T.g false).take j) x.a x.b
                rw [List.length_take] at hgl2
                generalize hk0 : (sel ((T.g false).take j) x.a x.b).length = k0 at *
                simp -dsimp (decide := true) (maxSteps := 1000000) (disch := first | omega | simp (decide := true) only [oncib0]) only [oncib13, ↓brun_b, envOf, reduceIte, Nat.reduceEqDiff, Nat.reduceAdd, Nat.reduceSub, Nat.reduceMul, Nat.reduceBEq, Nat.reduceLeDiff, Nat.reduceLT, Int.reduceToNat, rho]
                refine Sem.cutW [_, _] ⟨134, 0, [(3, .ptr 0 0 0), (53, .v (.int .i64 0)), (6, .v (.int .i64 0)), (61, .slc 11 0 (T.g false).length), (62, .v (.int .i64 ((T.g false).length : Int))), (63, .v (.int .i64 (j : Int))), (12, .v (.bool true))], [some (.row ⟨10, 1, true, 130, fun _ => [.ptr 1 0 0, .ptr 4 0 0, .slc 7 0 (T.w false).length, .slc 8 0 (T.w true).length, .v (.int .i64 ((T.c false) : Int)), .v (.int .i64 ((T.c true) : Int)), .slc 9 0 (T.s false).length, .slc 10 0 (T.s true).length, .slc 11 0 (T.g false).length, .slc 12 0 (T.g true).length]⟩),
              some (.row ⟨39, 1, true, 204, fun _ => EC.c ⟨oi0, .v (.bool (T.e false).up), .v (.bool (T.e false).op), .v (.int .i64 (nI (T.e false).m)), .v (.int .i64 ((T.e false).m : Int)), .v (.int .i64 (nI (T.e false).p)), .v (.int .i64 ((T.e false).p : Int)), (T.e false).pid, .ptr 2 0 0⟩⟩),
              some (.row ⟨3, 1, true, 197, fun _ => [.v (.int .i64 ((T.e false).base : Int)), .slc 3 0 (T.e false).ts.length, .v (.int .i64 ((T.e false).got : Int))]⟩),
              some (.row ⟨1, (T.e false).ts.length, true, 35, trow (T.e false).ts⟩),
              some (.row ⟨39, 1, true, 204, fun _ => EC.c ⟨oi1, .v (.bool (T.e true).up), .v (.bool (T.e true).op), .v (.int .i64 (nI (T.e true).m)), .v (.int .i64 ((T.e true).m : Int)), .v (.int .i64 (nI (T.e true).p)), .v (.int .i64 ((T.e true).p : Int)), (T.e true).pid, .ptr 5 0 0⟩⟩),
              some (.row ⟨3, 1, true, 197, fun _ => [.v (.int .i64 ((T.e true).base : Int)), .slc 6 0 (T.e true).ts.length, .v (.int .i64 ((T.e true).got : Int))]⟩),
              some (.row ⟨1, (T.e true).ts.length, true, 35, trow (T.e true).ts⟩),
              some (.row ⟨95, (T.w false).length, true, 151, wrow (T.w false)⟩),
              some (.row ⟨95, (T.w true).length, true, 151, wrow (T.w true)⟩),
              some (.row ⟨5, (T.s false).length, true, 137, srow (T.s false)⟩),
              some (.row ⟨5, (T.s true).length, true, 137, srow (T.s true)⟩),
              some (.row ⟨5, (T.g false).length, true, 137, srow (T.g false)⟩),
              some (.row ⟨5, (T.g true).length, true, 137, srow (T.g true)⟩)]⟩ ?_ ?_
                · refine Sem.loop (ι := {l : Nat // l ≤ (T.s true).length ∧ (sel ((T.s true).take l) x.b x.a).length ≤ k0}) (fun l => ⟨134, 0, [(3, .ptr 0 0 0), (53, .v (.int .i64 0)), (6, .v (.int .i64 0)), (61, .slc 11 0 (T.g false).length), (62, .v (.int .i64 ((T.g false).length : Int))), (63, .v (.int .i64 (j : Int))), (8, .ptr 13 0 0), (102, .slc 10 0 (T.s true).length), (103, .v (.int .i64 ((T.s true).length : Int))), (104, .v (.int .i64 (l.1 : Int))), (9, .v (.int .i64 ((k0 - (sel ((T.s true).take l.1) x.b x.a).length : Nat) : Int)))], [some (.row ⟨10, 1, true, 130, fun _ => [.ptr 1 0 0, .ptr 4 0 0, .slc 7 0 (T.w false).length, .slc 8 0 (T.w true).length, .v (.int .i64 ((T.c false) : Int)), .v (.int .i64 ((T.c true) : Int)), .slc 9 0 (T.s false).length, .slc 10 0 (T.s true).length, .slc 11 0 (T.g false).length, .slc 12 0 (T.g true).length]⟩),
              some (.row ⟨39, 1, true, 204, fun _ => EC.c ⟨oi0, .v (.bool (T.e false).up), .v (.bool (T.e false).op), .v (.int .i64 (nI (T.e false).m)), .v (.int .i64 ((T.e false).m : Int)), .v (.int .i64 (nI (T.e false).p)), .v (.int .i64 ((T.e false).p : Int)), (T.e false).pid, .ptr 2 0 0⟩⟩),
              some (.row ⟨3, 1, true, 197, fun _ => [.v (.int .i64 ((T.e false).base : Int)), .slc 3 0 (T.e false).ts.length, .v (.int .i64 ((T.e false).got : Int))]⟩),
              some (.row ⟨1, (T.e false).ts.length, true, 35, trow (T.e false).ts⟩),
              some (.row ⟨39, 1, true, 204, fun _ => EC.c ⟨oi1, .v (.bool (T.e true).up), .v (.bool (T.e true).op), .v (.int .i64 (nI (T.e true).m)), .v (.int .i64 ((T.e true).m : Int)), .v (.int .i64 (nI (T.e true).p)), .v (.int .i64 ((T.e true).p : Int)), (T.e true).pid, .ptr 5 0 0⟩⟩),
              some (.row ⟨3, 1, true, 197, fun _ => [.v (.int .i64 ((T.e true).base : Int)), .slc 6 0 (T.e true).ts.length, .v (.int .i64 ((T.e true).got : Int))]⟩),
              some (.row ⟨1, (T.e true).ts.length, true, 35, trow (T.e true).ts⟩),
              some (.row ⟨95, (T.w false).length, true, 151, wrow (T.w false)⟩),
              some (.row ⟨95, (T.w true).length, true, 151, wrow (T.w true)⟩),
              some (.row ⟨5, (T.s false).length, true, 137, srow (T.s false)⟩),
              some (.row ⟨5, (T.s true).length, true, 137, srow (T.s true)⟩),
              some (.row ⟨5, (T.g false).length, true, 137, srow (T.g false)⟩),
              some (.row ⟨5, (T.g true).length, true, 137, srow (T.g true)⟩),
              some (.row ⟨5, 1, true, 137, fun _ => srow (T.g false) j⟩)]⟩) (fun l => (T.s true).length - l.1) ⟨0, Nat.zero_le _, Nat.zero_le _⟩ [0, 1, 2, 3, 4, 5, 6, 7, 8, 9, 10, 11, 12, 13] ?_ ?_
                  · (refine Wk.ofC ?_; simp -dsimp (decide := true) (maxSteps := 1000000) (disch := first | omega | simp (decide := true) only [oncib0]) only [oncib14, ↓brun_b, envOf, reduceIte, Nat.reduceEqDiff, Nat.reduceAdd, Nat.reduceSub, Nat.reduceMul, Nat.reduceBEq, Nat.reduceLeDiff, Nat.reduceLT, Int.reduceToNat, rho, List.take_zero, Nat.sub_zero, frz1, ↓reduceIte])
                  · rintro ⟨l, hl, hlk⟩
                    refine Sem.go (k := 1000) ?_
                    simp -dsimp (decide := true) (maxSteps := 1000000) (disch := first | omega | simp (decide := true) only [oncib0]) only [oncib12, ↓brun_b, envOf, reduceIte, Nat.reduceEqDiff, Nat.reduceAdd, Nat.reduceSub, Nat.reduceMul, Nat.reduceBEq, Nat.reduceLeDiff, Nat.reduceLT, Int.reduceToNat, rho]
                    refine SCond.split (fun h3 => ?_) (fun h3 => ?_)
                    · simp only [decide_eq_true_eq] at h3
                      have hl' : l < (T.s true).length := by omega
                      have hwl : IntKind.i64.wrap ((l : Int) + 1) = ((l + 1 : Nat) : Int) := by rw [wrap_i64 _ (by omega)]; rfl
                      have hy := getD_someS (T.s true) l hl'
                      obtain ⟨y, hyd⟩ : ∃ y, (T.s true).getD l ⟨0, 0, []⟩ = y := ⟨_, rfl⟩
                      rw [hyd] at hy
                      have hst := sel_step (T.s true) l y hy x.b x.a
                      have n1 := nI_eq y.a x.b
                      have n2 := nI_eq y.b x.a
                      by_cases ha : y.a = x.b
                      · rw [decide_eq_true ha] at n1
                        by_cases hb2 : y.b = x.a
                        · rw [decide_eq_true hb2] at n2
                          rw [if_pos ⟨ha, hb2⟩] at hst
                          have hst2 : (sel ((T.s true).take (l + 1)) x.b x.a).length = (sel ((T.s true).take l) x.b x.a).length + 1 := by rw [hst]; simp
                          by_cases hk : (sel ((T.s true).take l) x.b x.a).length = k0
                          · have hyt := hall.ok.is false j x hx l y hy ha hb2 (by rw [hk0]; exact hk)
                            have hk1 : decide (((k0 - (sel ((T.s true).take l) x.b x.a).length : Nat) : Int) = 0) = true := decide_eq_true (by omega)
                            simp -dsimp (decide := true) (maxSteps := 1000000) (disch := first | omega | simp (decide := true) only [oncib0]) only [oncib13, ↓brun_b, envOf, reduceIte, Nat.reduceEqDiff, Nat.reduceAdd, Nat.reduceSub, Nat.reduceMul, Nat.reduceBEq, Nat.reduceLeDiff, Nat.reduceLT, Int.reduceToNat, rho, sBin_agg .eql 23 _ _ _ (I16.cellsEq _ _), sBin_agg .eql 135 _ _ _ (ceq135 _ _ _ _), sBin_agg .neq 23 _ _ _ (I16.cellsEq _ _), sBin_agg .neq 135 _ _ _ (ceq135 _ _ _ _), hxd, hyd, n1, n2, hk1, hyt]
                            (repeat first | refine And.intro (by omega) ?_ | refine And.intro (flat135 _ _ _ _) ?_)
                            refine ⟨[0, 1, 2, 3, 4, 5, 6, 7, 8, 9, 10, 11, 12], ?_⟩
                            (refine Wk.ofC ?_; simp -dsimp (decide := true) (maxSteps := 1000000) (disch := first | omega | simp (decide := true) only [oncib0]) only [oncib10, ↓brun_b, envOf, reduceIte, Nat.reduceEqDiff, Nat.reduceAdd, Nat.reduceSub, Nat.reduceMul, Nat.reduceBEq, Nat.reduceLeDiff, Nat.reduceLT, Int.reduceToNat, rho, frz1, ↓reduceIte])
                          · have hk1 : decide (((k0 - (sel ((T.s true).take l) x.b x.a).length : Nat) : Int) = 0) = false := decide_eq_false (by omega)
                            have hw2 : IntKind.i64.wrap (((k0 - (sel ((T.s true).take l) x.b x.a).length : Nat) : Int) - 1) = ((k0 - (sel ((T.s true).take (l + 1)) x.b x.a).length : Nat) : Int) := by rw [wrap_i64 _ (by omega)]; omega
                            simp -dsimp (decide := true) (maxSteps := 1000000) (disch := first | omega | simp (decide := true) only [oncib0]) only [oncib13, ↓brun_b, envOf, reduceIte, Nat.reduceEqDiff, Nat.reduceAdd, Nat.reduceSub, Nat.reduceMul, Nat.reduceBEq, Nat.reduceLeDiff, Nat.reduceLT, Int.reduceToNat, rho, sBin_agg .eql 23 _ _ _ (I16.cellsEq _ _), sBin_agg .eql 135 _ _ _ (ceq135 _ _ _ _), sBin_agg .neq 23 _ _ _ (I16.cellsEq _ _), sBin_agg .neq 135 _ _ _ (ceq135 _ _ _ _), hxd, hyd, n1, n2, hk1, hw2, hwl]
                            (repeat first | refine And.intro (by omega) ?_ | refine And.intro (flat135 _ _ _ _) ?_)
                            refine ⟨⟨l + 1, by omega, by omega⟩, [0, 1, 2, 3, 4, 5, 6, 7, 8, 9, 10, 11, 12, 13], ?_, by show (T.s true).length - (l + 1) < (T.s true).length - l; omega⟩
                            (refine Wk.ofC ?_; simp -dsimp (decide := true) (maxSteps := 1000000) (disch := first | omega | simp (decide := true) only [oncib0]) only [oncib10, ↓brun_b, envOf, reduceIte, Nat.reduceEqDiff, Nat.reduceAdd, Nat.reduceSub, Nat.reduceMul, Nat.reduceBEq, Nat.reduceLeDiff, Nat.reduceLT, Int.reduceToNat, rho, hst2, frz1, ↓reduceIte])
                        · rw [decide_eq_false hb2] at n2
                          rw [if_neg (fun h => hb2 h.2), List.append_nil] at hst
                          have hst2 : (sel ((T.s true).take (l + 1)) x.b x.a).length = (sel ((T.s true).take l) x.b x.a).length := by rw [hst]
                          simp -dsimp (decide := true) (maxSteps := 1000000) (disch := first | omega | simp (decide := true) only [oncib0]) only [oncib13, ↓brun_b, envOf, reduceIte, Nat.reduceEqDiff, Nat.reduceAdd, Nat.reduceSub, Nat.reduceMul, Nat.reduceBEq, Nat.reduceLeDiff, Nat.reduceLT, Int.reduceToNat, rho, sBin_agg .eql 23 _ _ _ (I16.cellsEq _ _), sBin_agg .eql 135 _ _ _ (ceq135 _ _ _ _), sBin_agg .neq 23 _ _ _ (I16.cellsEq _ _), sBin_agg .neq 135 _ _ _ (ceq135 _ _ _ _), hxd, hyd, n1, n2, hwl]
                          (repeat first | refine And.intro (by omega) ?_ | refine And.intro (flat135 _ _ _ _) ?_)
                          refine ⟨⟨l + 1, by omega, by omega⟩, [0, 1, 2, 3, 4, 5, 6, 7, 8, 9, 10, 11, 12, 13], ?_, by show (T.s true).length - (l + 1) < (T.s true).length - l; omega⟩
                          (refine Wk.ofC ?_; simp -dsimp (decide := true) (maxSteps := 1000000) (disch := first | omega | simp (decide := true) only [oncib0]) only [oncib10, ↓brun_b, envOf, reduceIte, Nat.reduceEqDiff, Nat.reduceAdd, Nat.reduceSub, Nat.reduceMul, Nat.reduceBEq, Nat.reduceLeDiff, Nat.reduceLT, Int.reduceToNat, rho, hst2, frz1, ↓reduceIte])
                      · rw [decide_eq_false ha] at n1
                        rw [if_neg (fun h => ha h.1), List.append_nil] at hst
                        have hst2 : (sel ((T.s true).take (l + 1)) x.b x.a).length = (sel ((T.s true).take l) x.b x.a).length := by rw [hst]
                        simp -dsimp (decide := true) (maxSteps := 1000000) (disch := first | omega | simp (decide := true) only [oncib0]) only [oncib13, ↓brun_b, envOf, reduceIte, Nat.reduceEqDiff, Nat.reduceAdd, Nat.reduceSub, Nat.reduceMul, Nat.reduceBEq, Nat.reduceLeDiff, Nat.reduceLT, Int.reduceToNat, rho, sBin_agg .eql 23 _ _ _ (I16.cellsEq _ _), sBin_agg .eql 135 _ _ _ (ceq135 _ _ _ _), sBin_agg .neq 23 _ _ _ (I16.cellsEq _ _), sBin_agg .neq 135 _ _ _ (ceq135 _ _ _ _), hxd, hyd, n1, n2, hwl]
                        (repeat first | refine And.intro (by omega) ?_ | refine And.intro (flat135 _ _ _ _) ?_)
                        refine ⟨⟨l + 1, by omega, by omega⟩, [0, 1, 2, 3, 4, 5, 6, 7, 8, 9, 10, 11, 12, 13], ?_, by show (T.s true).length - (l + 1) < (T.s true).length - l; omega⟩
                        (refine Wk.ofC ?_; simp -dsimp (decide := true) (maxSteps := 1000000) (disch := first | omega | simp (decide := true) only [oncib0]) only [oncib10, ↓brun_b, envOf, reduceIte, Nat.reduceEqDiff, Nat.reduceAdd, Nat.reduceSub, Nat.reduceMul, Nat.reduceBEq, Nat.reduceLeDiff, Nat.reduceLT, Int.reduceToNat, rho, hst2, frz1, ↓reduceIte])
                    · simp only [decide_eq_false_iff_not] at h3
                      obtain rfl : l = (T.s true).length := by omega
                      rw [List.take_length] at hlk
                      exact absurd hmore (by show ¬ k0 < (sel (T.s true) x.b x.a).length; omega)
                · refine Sem.go (k := 1000) ?_
                  simp -dsimp (decide := true) (maxSteps := 1000000) (disch := first | omega | simp (decide := true) only [oncib0]) only [oncib12, ↓brun_b, envOf, reduceIte, Nat.reduceEqDiff, Nat.reduceAdd, Nat.reduceSub, Nat.reduceMul, Nat.reduceBEq, Nat.reduceLeDiff, Nat.reduceLT, Int.reduceToNat, rho, hwi]
                  refine ⟨⟨j + 1, hi'⟩, [0, 1, 2, 3, 4, 5, 6, 7, 8, 9, 10, 11, 12], ?_, by show (T.g false).length - (j + 1) < (T.g false).length - j; omega⟩
                  (refine Wk.ofC ?_; simp -dsimp (decide := true) (maxSteps := 1000000) (disch := first | omega | simp (decide := true) only [oncib0]) only [oncib10, ↓brun_b, envOf, reduceIte, Nat.reduceEqDiff, Nat.reduceAdd, Nat.reduceSub, Nat.reduceMul, Nat.reduceBEq, Nat.reduceLeDiff, Nat.reduceLT, Int.reduceToNat, rho, frz1, ↓reduceIte])
          · simp -dsimp (decide := true) (maxSteps := 1000000) (disch := first | omega | simp (decide := true) only [oncib0]) only [oncib12, ↓brun_b, envOf, reduceIte, Nat.reduceEqDiff, Nat.reduceAdd, Nat.reduceSub, Nat.reduceMul, Nat.reduceBEq, Nat.reduceLeDiff, Nat.reduceLT, Int.reduceToNat, rho]
            refine ⟨⟨1, by omega⟩, [0, 1, 2, 3, 4, 5, 6, 7, 8, 9, 10, 11, 12], ?_, by show 2 - 1 < 2 - 0; omega⟩
            (refine Wk.ofC ?_; simp -dsimp (decide := true) (maxSteps := 1000000) (disch := first | omega | simp (decide := true) only [oncib0]) only [oncib10, ↓brun_b, envOf, reduceIte, Nat.reduceEqDiff, Nat.reduceAdd, Nat.reduceSub, Nat.reduceMul, Nat.reduceBEq, Nat.reduceLeDiff, Nat.reduceLT, Int.reduceToNat, rho, hw0, hw1, frz1, ↓reduceIte])
      · refine Sem.go (k := 1000) ?_
        simp -dsimp (decide := true) (maxSteps := 1000000) (disch := first | omega | simp (decide := true) only [oncib0]) only [oncib13, ↓brun_b, envOf, reduceIte, Nat.reduceEqDiff, Nat.reduceAdd, Nat.reduceSub, Nat.reduceMul, Nat.reduceBEq, Nat.reduceLeDiff, Nat.reduceLT, Int.reduceToNat, rho]
        refine Sem.loop (ι := {i : Nat // i ≤ (T.g true).length}) (fun i => ⟨134, 0, [(3, .ptr 0 0 0), (53, .v (.int .i64 1)), (6, .v (.int .i64 1)), (61, .slc 12 0 (T.g true).length), (62, .v (.int .i64 ((T.g true).length : Int))), (63, .v (.int .i64 (i.1 : Int)))], [some (.row ⟨10, 1, true, 130, fun _ => [.ptr 1 0 0, .ptr 4 0 0, .slc 7 0 (T.w false).length, .slc 8 0 (T.w true).length, .v (.int .i64 ((T.c false) : Int)), .v (.int .i64 ((T.c true) : Int)), .slc 9 0 (T.s false).length, .slc 10 0 (T.s true).length, .slc 11 0 (T.g false).length, .slc 12 0 (T.g true).length]⟩),
              some (.row ⟨39, 1, true, 204, fun _ => EC.c ⟨oi0, .v (.bool (T.e false).up), .v (.bool (T.e false).op), .v (.int .i64 (nI (T.e false).m)), .v (.int .i64 ((T.e false).m : Int)), .v (.int .i64 (nI (T.e false).p)), .v (.int .i64 ((T.e false).p : Int)), (T.e false).pid, .ptr 2 0 0⟩⟩),
              some (.row ⟨3, 1, true, 197, fun _ => [.v (.int .i64 ((T.e false).base : Int)), .slc 3 0 (T.e false).ts.length, .v (.int .i64 ((T.e false).got : Int))]⟩),
              some (.row ⟨1, (T.e false).ts.length, true, 35, trow (T.e false).ts⟩),
              some (.row ⟨39, 1, true, 204, fun _ => EC.c ⟨oi1, .v (.bool (T.e true).up), .v (.bool (T.e true).op), .v (.int .i64 (nI (T.e true).m)), .v (.int .i64 ((T.e true).m : Int)), .v (.int .i64 (nI (T.e true).p)), .v (.int .i64 ((T.e true).p : Int)), (T.e true).pid, .ptr 5 0 0⟩⟩),
              some (.row ⟨3, 1, true, 197, fun _ => [.v (.int .i64 ((T.e true).base : Int)), .slc 6 0 (T.e true).ts.length, .v (.int .i64 ((T.e true).got : Int))]⟩),
              some (.row ⟨1, (T.e true).ts.length, true, 35, trow (T.e true).ts⟩),
              some (.row ⟨95, (T.w false).length, true, 151, wrow (T.w false)⟩),
              some (.row ⟨95, (T.w true).length, true, 151, wrow (T.w true)⟩),
              some (.row ⟨5, (T.s false).length, true, 137, srow (T.s false)⟩),
              some (.row ⟨5, (T.s true).length, true, 137, srow (T.s true)⟩),
              some (.row ⟨5, (T.g false).length, true, 137, srow (T.g false)⟩),
              some (.row ⟨5, (T.g true).length, true, 137, srow (T.g true)⟩)]⟩) (fun i => (T.g true).length - i.1) ⟨0, Nat.zero_le _⟩ [0, 1, 2, 3, 4, 5, 6, 7, 8, 9, 10, 11, 12] ?_ ?_
        · (refine Wk.ofC ?_; simp -dsimp (decide := true) (maxSteps := 1000000) (disch := first | omega | simp (decide := true) only [oncib0]) only [oncib10, ↓brun_b, envOf, reduceIte, Nat.reduceEqDiff, Nat.reduceAdd, Nat.reduceSub, Nat.reduceMul, Nat.reduceBEq, Nat.reduceLeDiff, Nat.reduceLT, Int.reduceToNat, rho, frz1, ↓reduceIte])
        · rintro ⟨i, hi⟩
          refine Sem.go (k := 1000) ?_
          simp -dsimp (decide := true) (maxSteps := 1000000) (disch := first | omega | simp (decide := true) only [oncib0]) only [oncib12, ↓brun_b, envOf, reduceIte, Nat.reduceEqDiff, Nat.reduceAdd, Nat.reduceSub, Nat.reduceMul, Nat.reduceBEq, Nat.reduceLeDiff, Nat.reduceLT, Int.reduceToNat, rho]
          refine SCond.split (fun h1 => ?_) (fun h1 => ?_)
          · simp only [decide_eq_true_eq] at h1
            have hi' : i < (T.g true).length := by omega
            have hwi : IntKind.i64.wrap ((i : Int) + 1) = ((i + 1 : Nat) : Int) := by rw [wrap_i64 _ (by omega)]; rfl
            have hx := getD_someS (T.g true) i hi'
            obtain ⟨x, hxd⟩ : ∃ x, (T.g true).getD i ⟨0, 0, []⟩ = x := ⟨_, rfl⟩
            rw [hxd] at hx
            have ht1 : ((i : Int) - 0).toNat = i := by omega
            simp -dsimp (decide := true) (maxSteps := 1000000) (disch := first | omega | simp (decide := true) only [oncib0]) only [oncib13, ↓brun_b, envOf, reduceIte, Nat.reduceEqDiff, Nat.reduceAdd, Nat.reduceSub, Nat.reduceMul, Nat.reduceBEq, Nat.reduceLeDiff, Nat.reduceLT, Int.reduceToNat, rho, ht1]
            refine And.intro (by omega) (And.intro hi' (And.intro (by omega) ?_))
            refine Sem.loop (ι := {j : Nat // j ≤ i}) (fun j => ⟨134, 0, [(3, .ptr 0 0 0), (53, .v (.int .i64 1)), (6, .v (.int .i64 1)), (61, .slc 12 0 (T.g true).length), (62, .v (.int .i64 ((T.g true).length : Int))), (63, .v (.int .i64 (i : Int))), (8, .ptr 13 0 0), (75, .slc 12 0 i), (76, .v (.int .i64 (i : Int))), (77, .v (.int .i64 (j.1 : Int))), (9, .v (.int .i64 ((sel ((T.g true).take j.1) x.a x.b).length : Int)))], [some (.row ⟨10, 1, true, 130, fun _ => [.ptr 1 0 0, .ptr 4 0 0, .slc 7 0 (T.w false).length, .slc 8 0 (T.w true).length, .v (.int .i64 ((T.c false) : Int)), .v (.int .i64 ((T.c true) : Int)), .slc 9 0 (T.s false).length, .slc 10 0 (T.s true).length, .slc 11 0 (T.g false).length, .slc 12 0 (T.g true).length]⟩),
              some (.row ⟨39, 1, true, 204, fun _ => EC.c ⟨oi0, .v (.bool (T.e false).up), .v (.bool (T.e false).op), .v (.int .i64 (nI (T.e false).m)), .v (.int .i64 ((T.e false).m : Int)), .v (.int .i64 (nI (T.e false).p)), .v (.int .i64 ((T.e false).p : Int)), (T.e false).pid, .ptr 2 0 0⟩⟩),
              some (.row ⟨3, 1, true, 197, fun _ => [.v (.int .i64 ((T.e false).base : Int)), .slc 3 0 (T.e false).ts.length, .v (.int .i64 ((T.e false).got : Int))]⟩),
              some (.row ⟨1, (T.e false).ts.length, true, 35, trow (T.e false).ts⟩),
              some (.row ⟨39, 1, true, 204, fun _ => EC.c ⟨oi1, .v (.bool (T.e true).up), .v (.bool (T.e true).op), .v (.int .i64 (nI (T.e true).m)), .v (.int .i64 ((T.e true).m : Int)), .v (.int .i64 (nI (T.e true).p)), .v (.int .i64 ((T.e true).p : Int)), (T.e true).pid, .ptr 5 0 0⟩⟩),
              some (.row ⟨3, 1, true, 197, fun _ => [.v (.int .i64 ((T.e true).base : Int)), .slc 6 0 (T.e true).ts.length, .v (.int .i64 ((T.e true).got : Int))]⟩),
              some (.row ⟨1, (T.e true).ts.length, true, 35, trow (T.e true).ts⟩),
              some (.row ⟨95, (T.w false).length, true, 151, wrow (T.w false)⟩),
              some (.row ⟨95, (T.w true).length, true, 151, wrow (T.w true)⟩),
              some (.row ⟨5, (T.s false).length, true, 137, srow (T.s false)⟩),
              some (.row ⟨5, (T.s true).length, true, 137, srow (T.s true)⟩),
              some (.row ⟨5, (T.g false).length, true, 137, srow (T.g false)⟩),
              some (.row ⟨5, (T.g true).length, true, 137, srow (T.g true)⟩),
              some (.row ⟨5, 1, true, 137, fun _ => srow (T.g true) i⟩)]⟩) (fun j => i - j.1) ⟨0, Nat.zero_le _⟩ [0, 1, 2, 3, 4, 5, 6, 7, 8, 9, 10, 11, 12, 13] ?_ ?_
            · (refine Wk.ofC ?_; simp -dsimp (decide := true) (maxSteps := 1000000) (disch := first | omega | simp (decide := true) only [oncib0]) only [oncib14, ↓brun_b, envOf, reduceIte, Nat.reduceEqDiff, Nat.reduceAdd, Nat.reduceSub, Nat.reduceMul, Nat.reduceBEq, Nat.reduceLeDiff, Nat.reduceLT, Int.reduceToNat, rho, List.take_zero, frz1, ↓reduceIte])
            · rintro ⟨j, hj⟩
              refine Sem.go (k := 1000) ?_
              simp -dsimp (decide := true) (maxSteps := 1000000) (disch := first | omega | simp (decide := true) only [oncib0]) only [oncib12, ↓brun_b, envOf, reduceIte, Nat.reduceEqDiff, Nat.reduceAdd, Nat.reduceSub, Nat.reduceMul, Nat.reduceBEq, Nat.reduceLeDiff, Nat.reduceLT, Int.reduceToNat, rho]
              refine SCond.split (fun h2 => ?_) (fun h2 => ?_)
              · simp only [decide_eq_true_eq] at h2
                have hj' : j < i := by omega
                have hwj : IntKind.i64.wrap ((j : Int) + 1) = ((j + 1 : Nat) : Int) := by rw [wrap_i64 _ (by omega)]; rfl
                have hy := getD_someS (T.g true) j (by omega)
                obtain ⟨y, hyd⟩ : ∃ y, (T.g true).getD j ⟨0, 0, []⟩ = y := ⟨_, rfl⟩
                rw [hyd] at hy
                have hst := sel_step (T.g true) j y hy x.a x.b
                have hl := sel_le ((T.g true).take j) x.a x.b
                rw [List.length_take] at hl
                have hwk : IntKind.i64.wrap (((sel ((T.g true).take j) x.a x.b).length : Int) + 1) = (((sel ((T.g true).take j) x.a x.b).length + 1 : Nat) : Int) := by rw [wrap_i64 _ (by omega)]; rfl
                have n1 := nI_eq y.a x.a
                have n2 := nI_eq y.b x.b
                by_cases ha : y.a = x.a
                · rw [decide_eq_true ha] at n1
                  by_cases hb2 : y.b = x.b
                  · rw [decide_eq_true hb2] at n2
                    rw [if_pos ⟨ha, hb2⟩] at hst
                    have hst2 : (sel ((T.g true).take (j + 1)) x.a x.b).length = (sel ((T.g true).take j) x.a x.b).length + 1 := by rw [hst]; simp
                    simp -dsimp (decide := true) (maxSteps := 1000000) (disch := first | omega | simp (decide := true) only [oncib0]) only [oncib13, ↓brun_b, envOf, reduceIte, Nat.reduceEqDiff, Nat.reduceAdd, Nat.reduceSub, Nat.reduceMul, Nat.reduceBEq, Nat.reduceLeDiff, Nat.reduceLT, Int.reduceToNat, rho, sBin_agg .eql 23 _ _ _ (I16.cellsEq _ _), sBin_agg .eql 135 _ _ _ (ceq135 _ _ _ _), sBin_agg .neq 23 _ _ _ (I16.cellsEq _ _), sBin_agg .neq 135 _ _ _ (ceq135 _ _ _ _), hxd, hyd, n1, n2, hwk, hwj]
                    (repeat first | refine And.intro (by omega) ?_ | refine And.intro (flat135 _ _ _ _) ?_)
                    refine ⟨⟨j + 1, by omega⟩, [0, 1, 2, 3, 4, 5, 6, 7, 8, 9, 10, 11, 12, 13], ?_, by show i - (j + 1) < i - j; omega⟩
                    (refine Wk.ofC ?_; simp -dsimp (decide := true) (maxSteps := 1000000) (disch := first | omega | simp (decide := true) only [oncib0]) only [oncib10, ↓brun_b, envOf, reduceIte, Nat.reduceEqDiff, Nat.reduceAdd, Nat.reduceSub, Nat.reduceMul, Nat.reduceBEq, Nat.reduceLeDiff, Nat.reduceLT, Int.reduceToNat, rho, hst2, frz1, ↓reduceIte])
                  · rw [decide_eq_false hb2] at n2
                    rw [if_neg (fun h => hb2 h.2), List.append_nil] at hst
                    have hst2 : (sel ((T.g true).take (j + 1)) x.a x.b).length = (sel ((T.g true).take j) x.a x.b).length := by rw [hst]
                    simp -dsimp (decide := true) (maxSteps := 1000000) (disch := first | omega | simp (decide := true) only [oncib0]) only [oncib13, ↓brun_b, envOf, reduceIte, Nat.reduceEqDiff, Nat.reduceAdd, Nat.reduceSub, Nat.reduceMul, Nat.reduceBEq, Nat.reduceLeDiff, Nat.reduceLT, Int.reduceToNat, rho, sBin_agg .eql 23 _ _ _ (I16.cellsEq _ _), sBin_agg .eql 135 _ _ _ (ceq135 _ _ _ _), sBin_agg .neq 23 _ _ _ (I16.cellsEq _ _), sBin_agg .neq 135 _ _ _ (ceq135 _ _ _ _), hxd, hyd, n1, n2, hwk, hwj]
                    (repeat first | refine And.intro (by omega) ?_ | refine And.intro (flat135 _ _ _ _) ?_)
                    refine ⟨⟨j + 1, by omega⟩, [0, 1, 2, 3, 4, 5, 6, 7, 8, 9, 10, 11, 12, 13], ?_, by show i - (j + 1) < i - j; omega⟩
                    (refine Wk.ofC ?_; simp -dsimp (decide := true) (maxSteps := 1000000) (disch := first | omega | simp (decide := true) only [oncib0]) only [oncib10, ↓brun_b, envOf, reduceIte, Nat.reduceEqDiff, Nat.reduceAdd, Nat.reduceSub, Nat.reduceMul, Nat.reduceBEq, Nat.reduceLeDiff, Nat.reduceLT, Int.reduceToNat, rho, hst2, frz1, ↓reduceIte])
                · rw [decide_eq_false ha] at n1
                  rw [if_neg (fun h => ha h.1), List.append_nil] at hst
                  have hst2 : (sel ((T.g true).take (j + 1)) x.a x.b).length = (sel ((T.g true).take j) x.a x.b).length := by rw [hst]
                  simp -dsimp (decide := true) (maxSteps := 1000000) (disch := first | omega | simp (decide := true) only [oncib0]) only [oncib13, ↓brun_b, envOf, reduceIte, Nat.reduceEqDiff, Nat.reduceAdd, Nat.reduceSub, Nat.reduceMul, Nat.reduceBEq, Nat.reduceLeDiff, Nat.reduceLT, Int.reduceToNat, rho, sBin_agg .eql 23 _ _ _ (I16.cellsEq _ _), sBin_agg .eql 135 _ _ _ (ceq135 _ _ _ _), sBin_agg .neq 23 _ _ _ (I16.cellsEq _ _), sBin_agg .neq 135 _ _ _ (ceq135 _ _ _ _), hxd, hyd, n1, n2, hwk, hwj]
                  (repeat first | refine And.intro (by omega) ?_ | refine And.intro (flat135 _ _ _ _) ?_)
                  refine ⟨⟨j + 1, by omega⟩, [0, 1, 2, 3, 4, 5, 6, 7, 8, 9, 10, 11, 12, 13], ?_, by show i - (j + 1) < i - j; omega⟩
                  (refine Wk.ofC ?_; simp -dsimp (decide := true) (maxSteps := 1000000) (disch := first | omega | simp (decide := true) only [oncib0]) only [oncib10, ↓brun_b, envOf, reduceIte, Nat.reduceEqDiff, Nat.reduceAdd, Nat.reduceSub, Nat.reduceMul, Nat.reduceBEq, Nat.reduceLeDiff, Nat.reduceLT, Int.reduceToNat, rho, hst2, frz1, ↓reduceIte])
              · simp only [decide_eq_false_iff_not] at h2
                obtain rfl : j = i := by omega
                have hmore := hall.ok.more true j x hx
                have hgl2 := sel_le ((T.g true).take j) x.a x.b
                rw [List.length_take] at hgl2
                generalize hk0 : (sel ((T.g true).take j) x.a x.b).length = k0 at *
                simp -dsimp (decide := true) (maxSteps := 1000000) (disch := first | omega | simp (decide := true) only [oncib0]) only [oncib13, ↓brun_b, envOf, reduceIte, Nat.reduceEqDiff, Nat.reduceAdd, Nat.reduceSub, Nat.reduceMul, Nat.reduceBEq, Nat.reduceLeDiff, Nat.reduceLT, Int.reduceToNat, rho]
                refine Sem.cutW [_, _] ⟨134, 0, [(3, .ptr 0 0 0), (53, .v (.int .i64 1)), (6, .v (.int .i64 1)), (61, .slc 12 0 (T.g true).length), (62, .v (.int .i64 ((T.g true).length : Int))), (63, .v (.int .i64 (j : Int))), (12, .v (.bool true))], [some (.row ⟨10, 1, true, 130, fun _ => [.ptr 1 0 0, .ptr 4 0 0, .slc 7 0 (T.w false).length, .slc 8 0 (T.w true).length, .v (.int .i64 ((T.c false) : Int)), .v (.int .i64 ((T.c true) : Int)), .slc 9 0 (T.s false).length, .slc 10 0 (T.s true).length, .slc 11 0 (T.g false).length, .slc 12 0 (T.g true).length]⟩),
              some (.row ⟨39, 1, true, 204, fun _ => EC.c ⟨oi0, .v (.bool (T.e false).up), .v (.bool (T.e false).op), .v (.int .i64 (nI (T.e false).m)), .v (.int .i64 ((T.e false).m : Int)), .v (.int .i64 (nI (T.e false).p)), .v (.int .i64 ((T.e false).p : Int)), (T.e false).pid, .ptr 2 0 0⟩⟩),
              some (.row ⟨3, 1, true, 197, fun _ => [.v (.int .i64 ((T.e false).base : Int)), .slc 3 0 (T.e false).ts.length, .v (.int .i64 ((T.e false).got : Int))]⟩),
              some (.row ⟨1, (T.e false).ts.length, true, 35, trow (T.e false).ts⟩),
              some (.row ⟨39, 1, true, 204, fun _ => EC.c ⟨oi1, .v (.bool (T.e true).up), .v (.bool (T.e true).op), .v (.int .i64 (nI (T.e true).m)), .v (.int .i64 ((T.e true).m : Int)), .v (.int .i64 (nI (T.e true).p)), .v (.int .i64 ((T.e true).p : Int)), (T.e true).pid, .ptr 5 0 0⟩⟩),
              some (.row ⟨3, 1, true, 197, fun _ => [.v (.int .i64 ((T.e true).base : Int)), .slc 6 0 (T.e true).ts.length, .v (.int .i64 ((T.e true).got : Int))]⟩),
              some (.row ⟨1, (T.e true).ts.length, true, 35, trow (T.e true).ts⟩),
              some (.row ⟨95, (T.w false).length, true, 151, wrow (T.w false)⟩),
              some (.row ⟨95, (T.w true).length, true, 151, wrow (T.w true)⟩),
              some (.row ⟨5, (T.s false).length, true, 137, srow (T.s false)⟩),
              some (.row ⟨5, (T.s true).length, true, 137, srow (T.s true)⟩),
              some (.row ⟨5, (T.g false).length, true, 137, srow (T.g false)⟩),
              some (.row ⟨5, (T.g true).length, true, 137, srow (T.g true)⟩)]⟩ ?_ ?_
                · refine Sem.loop (ι := {l : Nat // l ≤ (T.s false).length ∧ (sel ((T.s false).take l) x.b x.a).length ≤ k0}) (fun l => ⟨134, 0, [(3, .ptr 0 0 0), (53, .v (.int .i64 1)), (6, .v (.int .i64 1)), (61, .slc 12 0 (T.g true).length), (62, .v (.int .i64 ((T.g true).length : Int))), (63, .v (.int .i64 (j : Int))), (8, .ptr 13 0 0), (102, .slc 9 0 (T.s false).length), (103, .v (.int .i64 ((T.s false).length : Int))), (104, .v (.int .i64 (l.1 : Int))), (9, .v (.int .i64 ((k0 - (sel ((T.s false).take l.1) x.b x.a).length : Nat) : Int)))], [some (.row ⟨10, 1, true, 130, fun _ => [.ptr 1 0 0, .ptr 4 0 0, .slc 7 0 (T.w false).length, .slc 8 0 (T.w true).length, .v (.int .i64 ((T.c false) : Int)), .v (.int .i64 ((T.c true) : Int)), .slc 9 0 (T.s false).length, .slc 10 0 (T.s true).length, .slc 11 0 (T.g false).length, .slc 12 0 (T.g true).length]⟩),
              some (.row ⟨39, 1, true, 204, fun _ => EC.c ⟨oi0, .v (.bool (T.e false).up), .v (.bool (T.e false).op), .v (.int .i64 (nI (T.e false).m)), .v (.int .i64 ((T.e false).m : Int)), .v (.int .i64 (nI (T.e false).p)), .v (.int .i64 ((T.e false).p : Int)), (T.e false).pid, .ptr 2 0 0⟩⟩),
              some (.row ⟨3, 1, true, 197, fun _ => [.v (.int .i64 ((T.e false).base : Int)), .slc 3 0 (T.e false).ts.length, .v (.int .i64 ((T.e false).got : Int))]⟩),
              some (.row ⟨1, (T.e false).ts.length, true, 35, trow (T.e false).ts⟩),
              some (.row ⟨39, 1, true, 204, fun _ => EC.c ⟨oi1, .v (.bool (T.e true).up), .v (.bool (T.e true).op), .v (.int .i64 (nI (T.e true).m)), .v (.int .i64 ((T.e true).m : Int)), .v (.int .i64 (nI (T.e true).p)), .v (.int .i64 ((T.e true).p : Int)), (T.e true).pid, .ptr 5 0 0⟩⟩),
              some (.row ⟨3, 1, true, 197, fun _ => [.v (.int .i64 ((T.e true).base : Int)), .slc 6 0 (T.e true).ts.length, .v (.int .i64 ((T.e true).got : Int))]⟩),
              some (.row ⟨1, (T.e true).ts.length, true, 35, trow (T.e true).ts⟩),
              some (.row ⟨95, (T.w false).length, true, 151, wrow (T.w false)⟩),
              some (.row ⟨95, (T.w true).length, true, 151, wrow (T.w true)⟩),
              some (.row ⟨5, (T.s false).length, true, 137, srow (T.s false)⟩),
              some (.row ⟨5, (T.s true).length, true, 137, srow (T.s true)⟩),
              some (.row ⟨5, (T.g false).length, true, 137, srow (T.g false)⟩),
              some (.row ⟨5, (T.g true).length, true, 137, srow (T.g true)⟩),
              some (.row ⟨5, 1, true, 137, fun _ => srow (T.g true) j⟩)]⟩) (fun l => (T.s false).length - l.1) ⟨0, Nat.zero_le _, Nat.zero_le _⟩ [0, 1, 2, 3, 4, 5, 6, 7, 8, 9, 10, 11, 12, 13] ?_ ?_
                  · (refine Wk.ofC ?_; simp -dsimp (decide := true) (maxSteps := 1000000) (disch := first | omega | simp (decide := true) only [oncib0]) only [oncib14, ↓brun_b, envOf, reduceIte, Nat.reduceEqDiff, Nat.reduceAdd, Nat.reduceSub, Nat.reduceMul, Nat.reduceBEq, Nat.reduceLeDiff, Nat.reduceLT, Int.reduceToNat, rho, List.take_zero, Nat.sub_zero, frz1, ↓reduceIte])
                  · rintro ⟨l, hl, hlk⟩
                    refine Sem.go (k := 1000) ?_
                    simp -dsimp (decide := true) (maxSteps := 1000000) (disch := first | omega | simp (decide := true) only [oncib0]) only [oncib12, ↓brun_b, envOf, reduceIte, Nat.reduceEqDiff, Nat.reduceAdd, Nat.reduceSub, Nat.reduceMul, Nat.reduceBEq, Nat.reduceLeDiff, Nat.reduceLT, Int.reduceToNat, rho]
                    refine SCond.split (fun h3 => ?_) (fun h3 => ?_)
                    · simp only [decide_eq_true_eq] at h3
                      have hl' : l < (T.s false).length := by omega
                      have hwl : IntKind.i64.wrap ((l : Int) + 1) = ((l + 1 : Nat) : Int) := by rw [wrap_i64 _ (by omega)]; rfl
                      have hy := getD_someS (T.s false) l hl'
                      obtain ⟨y, hyd⟩ : ∃ y, (T.s false).getD l ⟨0, 0, []⟩ = y := ⟨_, rfl⟩
                      rw [hyd] at hy
                      have hst := sel_step (T.s false) l y hy x.b x.a
                      have n1 := nI_eq y.a x.b
                      have n2 := nI_eq y.b x.a
                      by_cases ha : y.a = x.b
                      · rw [decide_eq_true ha] at n1
                        by_cases hb2 : y.b = x.a
                        · rw [decide_eq_true hb2] at n2
                          rw [if_pos ⟨ha, hb2⟩] at hst
                          have hst2 : (sel ((T.s false).take (l + 1)) x.b x.a).length = (sel ((T.s false).take l) x.b x.a).length + 1 := by rw [hst]; simp
                          by_cases hk : (sel ((T.s false).take l) x.b x.a).length = k0
                          · have hyt := hall.ok.is true j x hx l y hy ha hb2 (by rw [hk0]; exact hk)
                            have hk1 : decide (((k0 - (sel ((T.s false).take l) x.b x.a).length : Nat) : Int) = 0) = true := decide_eq_true (by omega)
                            simp -dsimp (decide := true) (maxSteps := 1000000) (disch := first | omega | simp (decide := true) only [oncib0]) only [oncib13, ↓brun_b, envOf, reduceIte, Nat.reduceEqDiff, Nat.reduceAdd, Nat.reduceSub, Nat.reduceMul, Nat.reduceBEq, Nat.reduceLeDiff, Nat.reduceLT, Int.reduceToNat, rho, sBin_agg .eql 23 _ _ _ (I16.cellsEq _ _), sBin_agg .eql 135 _ _ _ (ceq135 _ _ _ _), sBin_agg .neq 23 _ _ _ (I16.cellsEq _ _), sBin_agg .neq 135 _ _ _ (ceq135 _ _ _ _), hxd, hyd, n1, n2, hk1, hyt]
                            (repeat first | refine And.intro (by omega) ?_ | refine And.intro (flat135 _ _ _ _) ?_)
                            refine ⟨[0, 1, 2, 3, 4, 5, 6, 7, 8, 9, 10, 11, 12], ?_⟩
                            (refine Wk.ofC ?_; simp -dsimp (decide := true) (maxSteps := 1000000) (disch := first | omega | simp (decide := true) only [oncib0]) only [oncib10, ↓brun_b, envOf, reduceIte, Nat.reduceEqDiff, Nat.reduceAdd, Nat.reduceSub, Nat.reduceMul, Nat.reduceBEq, Nat.reduceLeDiff, Nat.reduceLT, Int.reduceToNat, rho, frz1, ↓reduceIte])
                          · have hk1 : decide (((k0 - (sel ((T.s false).take l) x.b x.a).length : Nat) : Int) = 0) = false := decide_eq_false (by omega)
                            have hw2 : IntKind.i64.wrap (((k0 - (sel ((T.s false).take l) x.b x.a).length : Nat) : Int) - 1) = ((k0 - (sel ((T.s false).take (l + 1)) x.b x.a).length : Nat) : Int) := by rw [wrap_i64 _ (by omega)]; omega
                            simp -dsimp (decide := true) (maxSteps := 1000000) (disch := first | omega | simp (decide := true) only [oncib0]) only [oncib13, ↓brun_b, envOf, reduceIte, Nat.reduceEqDiff, Nat.reduceAdd, Nat.reduceSub, Nat.reduceMul, Nat.reduceBEq, Nat.reduceLeDiff, Nat.reduceLT, Int.reduceToNat, rho, sBin_agg .eql 23 _ _ _ (I16.cellsEq _ _), sBin_agg .eql 135 _ _ _ (ceq135 _ _ _ _), sBin_agg .neq 23 _ _ _ (I16.cellsEq _ _), sBin_agg .neq 135 _ _ _ (ceq135 _ _ _ _), hxd, hyd, n1, n2, hk1, hw2, hwl]
                            (repeat first | refine And.intro (by omega) ?_ | refine And.intro (flat135 _ _ _ _) ?_)
                            refine ⟨⟨l + 1, by omega, by omega⟩, [0, 1, 2, 3, 4, 5, 6, 7, 8, 9, 10, 11, 12, 13], ?_, by show (T.s false).length - (l + 1) < (T.s false).length - l; omega⟩
                            (refine Wk.ofC ?_; simp -dsimp (decide := true) (maxSteps := 1000000) (disch := first | omega | simp (decide := true) only [oncib0]) only [oncib10, ↓brun_b, envOf, reduceIte, Nat.reduceEqDiff, Nat.reduceAdd, Nat.reduceSub, Nat.reduceMul, Nat.reduceBEq, Nat.reduceLeDiff, Nat.reduceLT, Int.reduceToNat, rho, hst2, frz1, ↓reduceIte])
                        · rw [decide_eq_false hb2] at n2
                          rw [if_neg (fun h => hb2 h.2), List.append_nil] at hst
                          have hst2 : (sel ((T.s false).take (l + 1)) x.b x.a).length = (sel ((T.s false).take l) x.b x.a).length := by rw [hst]
                          simp -dsimp (decide := true) (maxSteps := 1000000) (disch := first | omega | simp (decide := true) only [oncib0]) only [oncib13, ↓brun_b, envOf, reduceIte, Nat.reduceEqDiff, Nat.reduceAdd, Nat.reduceSub, Nat.reduceMul, Nat.reduceBEq, Nat.reduceLeDiff, Nat.reduceLT, Int.reduceToNat, rho, sBin_agg .eql 23 _ _ _ (I16.cellsEq _ _), sBin_agg .eql 135 _ _ _ (ceq135 _ _ _ _), sBin_agg .neq 23 _ _ _ (I16.cellsEq _ _), sBin_agg .neq 135 _ _ _ (ceq135 _ _ _ _), hxd, hyd, n1, n2, hwl]
                          (repeat first | refine And.intro (by omega) ?_ | refine And.intro (flat135 _ _ _ _) ?_)
                          refine ⟨⟨l + 1, by omega, by omega⟩, [0, 1, 2, 3, 4, 5, 6, 7, 8, 9, 10, 11, 12, 13], ?_, by show (T.s false).length - (l + 1) < (T.s false).length - l; omega⟩
                          (refine Wk.ofC ?_; simp -dsimp (decide := true) (maxSteps := 1000000) (disch := first | omega | simp (decide := true) only [oncib0]) only [oncib10, ↓brun_b, envOf, reduceIte, Nat.reduceEqDiff, Nat.reduceAdd, Nat.reduceSub, Nat.reduceMul, Nat.reduceBEq, Nat.reduceLeDiff, Nat.reduceLT, Int.reduceToNat, rho, hst2, frz1, ↓reduceIte])
                      · rw [decide_eq_false ha] at n1
                        rw [if_neg (fun h => ha h.1), List.append_nil] at hst
                        have hst2 : (sel ((T.s false).take (l + 1)) x.b x.a).length = (sel ((T.s false).take l) x.b x.a).length := by rw [hst]
                        simp -dsimp (decide := true) (maxSteps := 1000000) (disch := first | omega | simp (decide := true) only [oncib0]) only [oncib13, ↓brun_b, envOf, reduceIte, Nat.reduceEqDiff, Nat.reduceAdd, Nat.reduceSub, Nat.reduceMul, Nat.reduceBEq, Nat.reduceLeDiff, Nat.reduceLT, Int.reduceToNat, rho, sBin_agg .eql 23 _ _ _ (I16.cellsEq _ _), sBin_agg .eql 135 _ _ _ (ceq135 _ _ _ _), sBin_agg .neq 23 _ _ _ (I16.cellsEq _ _), sBin_agg .neq 135 _ _ _ (ceq135 _ _ _ _), hxd, hyd, n1, n2, hwl]
                        (repeat first | refine And.intro (by omega) ?_ | refine And.intro (flat135 _ _ _ _) ?_)
                        refine ⟨⟨l + 1, by omega, by omega⟩, [0, 1, 2, 3, 4, 5, 6, 7, 8, 9, 10, 11, 12, 13], ?_, by show (T.s false).length - (l + 1) < (T.s false).length - l; omega⟩
                        (refine Wk.ofC ?_; simp -dsimp (decide := true) (maxSteps := 1000000) (disch := first | omega | simp (decide := true) only [oncib0]) only [oncib10, ↓brun_b, envOf, reduceIte, Nat.reduceEqDiff, Nat.reduceAdd, Nat.reduceSub, Nat.reduceMul, Nat.reduceBEq, Nat.reduceLeDiff, Nat.reduceLT, Int.reduceToNat, rho, hst2, frz1, ↓reduceIte])
                    · simp only [decide_eq_false_iff_not] at h3
                      obtain rfl : l = (T.s false).length := by omega
                      rw [List.take_length] at hlk
                      exact absurd hmore (by show ¬ k0 < (sel (T.s false) x.b x.a).length; omega)
                · refine Sem.go (k := 1000) ?_
                  simp -dsimp (decide := true) (maxSteps := 1000000) (disch := first | omega | simp (decide := true) only [oncib0]) only [oncib12, ↓brun_b, envOf, reduceIte, Nat.reduceEqDiff, Nat.reduceAdd, Nat.reduceSub, Nat.reduceMul, Nat.reduceBEq, Nat.reduceLeDiff, Nat.reduceLT, Int.reduceToNat, rho, hwi]
                  refine ⟨⟨j + 1, hi'⟩, [0, 1, 2, 3, 4, 5, 6, 7, 8, 9, 10, 11, 12], ?_, by show (T.g true).length - (j + 1) < (T.g true).length - j; omega⟩
                  (refine Wk.ofC ?_; simp -dsimp (decide := true) (maxSteps := 1000000) (disch := first | omega | simp (decide := true) only [oncib0]) only [oncib10, ↓brun_b, envOf, reduceIte, Nat.reduceEqDiff, Nat.reduceAdd, Nat.reduceSub, Nat.reduceMul, Nat.reduceBEq, Nat.reduceLeDiff, Nat.reduceLT, Int.reduceToNat, rho, frz1, ↓reduceIte])
          · simp -dsimp (decide := true) (maxSteps := 1000000) (disch := first | omega | simp (decide := true) only [oncib0]) only [oncib12, ↓brun_b, envOf, reduceIte, Nat.reduceEqDiff, Nat.reduceAdd, Nat.reduceSub, Nat.reduceMul, Nat.reduceBEq, Nat.reduceLeDiff, Nat.reduceLT, Int.reduceToNat, rho]
            refine ⟨⟨2, by omega⟩, [0, 1, 2, 3, 4, 5, 6, 7, 8, 9, 10, 11, 12], ?_, by show 2 - 2 < 2 - 1; omega⟩
            (refine Wk.ofC ?_; simp -dsimp (decide := true) (maxSteps := 1000000) (disch := first | omega | simp (decide := true) only [oncib0]) only [oncib10, ↓brun_b, envOf, reduceIte, Nat.reduceEqDiff, Nat.reduceAdd, Nat.reduceSub, Nat.reduceMul, Nat.reduceBEq, Nat.reduceLeDiff, Nat.reduceLT, Int.reduceToNat, rho, hw0, hw1, frz1, ↓reduceIte])
      · refine Sem.go (k := 1000) ?_
        simp -dsimp (decide := true) (maxSteps := 1000000) (disch := first | omega | simp (decide := true) only [oncib0]) only [oncib12, ↓brun_b, envOf, reduceIte, Nat.reduceEqDiff, Nat.reduceAdd, Nat.reduceSub, Nat.reduceMul, Nat.reduceBEq, Nat.reduceLeDiff, Nat.reduceLT, Int.reduceToNat, rho]
        refine SQ.answer (rs := [.tmp 2]) rfl rfl ?_
        simp -dsimp (decide := true) (maxSteps := 1000000) (disch := first | omega | simp (decide := true) only [oncib0]) only [oncib2, ↓brun_b, envOf, reduceIte, Nat.reduceEqDiff, Nat.reduceAdd, Nat.reduceSub, Nat.reduceMul, Nat.reduceBEq, Nat.reduceLeDiff, Nat.reduceLT, Int.reduceToNat, rho, frz1, ↓reduceIte]
end Go.Proofs
