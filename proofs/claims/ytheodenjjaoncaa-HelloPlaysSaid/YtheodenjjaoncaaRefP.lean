/- Contracts of functions that the laws reach, on abstract values, and what they need: no conditions but those that each theorem states. -/
import Derived.Test.YtheodenjjaoncaaHelR
import Derived.Test.YtheodenjjaoncaaWinP
set_option linter.unusedVariables false
set_option linter.unusedSimpArgs false
set_option linter.defProp false
namespace Go.SL
open Go
structure RE where
  id : I16
  up : SV
  op : SV
  mi : SV
  mn : SV
  pi : SV
  pn : SV
  pid : I16
  wt : SV
  wk : SV
  wg : SV
def RE.c (x : RE) : List SV := (x.id.c ++ (x.up :: (x.op :: (x.mi :: (x.mn :: (x.pi :: (x.pn :: (x.pid.c ++ (x.wt :: (x.wk :: (x.wg :: [])))))))))))
theorem RE.c_length (x : RE) : x.c.length = 41 := by simp [RE.c, I16.c_length]
theorem RE.part_id (x : RE) : spart true x.c 0 16 = .agg x.id.c := by simp [spart, RE.c, List.drop_append, List.take_append, I16.c_length, List.take_of_length_le, List.drop_of_length_le]
theorem RE.set_id (x : RE) (v : I16) : splice x.c 0 v.c = RE.c { x with id := v } := by simp [splice, RE.c, List.drop_append, List.take_append, I16.c_length, List.take_of_length_le, List.drop_of_length_le]
theorem RE.at_up (x : RE) : cellAt x.c 16 = x.up := cellAt_get _ _ _ (by simp [RE.c, List.getElem?_append, I16.c_length])
theorem RE.set_up (x : RE) (v : SV) : splice x.c 16 [v] = RE.c { x with up := v } := by simp [splice, RE.c, List.drop_append, List.take_append, I16.c_length, List.take_of_length_le, List.drop_of_length_le]
theorem RE.at_op (x : RE) : cellAt x.c 17 = x.op := cellAt_get _ _ _ (by simp [RE.c, List.getElem?_append, I16.c_length])
theorem RE.set_op (x : RE) (v : SV) : splice x.c 17 [v] = RE.c { x with op := v } := by simp [splice, RE.c, List.drop_append, List.take_append, I16.c_length, List.take_of_length_le, List.drop_of_length_le]
theorem RE.at_mi (x : RE) : cellAt x.c 18 = x.mi := cellAt_get _ _ _ (by simp [RE.c, List.getElem?_append, I16.c_length])
theorem RE.at_mn (x : RE) : cellAt x.c 19 = x.mn := cellAt_get _ _ _ (by simp [RE.c, List.getElem?_append, I16.c_length])
theorem RE.at_pi (x : RE) : cellAt x.c 20 = x.pi := cellAt_get _ _ _ (by simp [RE.c, List.getElem?_append, I16.c_length])
theorem RE.at_pn (x : RE) : cellAt x.c 21 = x.pn := cellAt_get _ _ _ (by simp [RE.c, List.getElem?_append, I16.c_length])
theorem RE.part_pid (x : RE) : spart true x.c 22 16 = .agg x.pid.c := by simp [spart, RE.c, List.drop_append, List.take_append, I16.c_length, List.take_of_length_le, List.drop_of_length_le]
theorem RE.set_pid (x : RE) (v : I16) : splice x.c 22 v.c = RE.c { x with pid := v } := by simp [splice, RE.c, List.drop_append, List.take_append, I16.c_length, List.take_of_length_le, List.drop_of_length_le]
theorem RE.at_wt (x : RE) : cellAt x.c 38 = x.wt := cellAt_get _ _ _ (by simp [RE.c, List.getElem?_append, I16.c_length])
theorem RE.set_wt (x : RE) (v : SV) : splice x.c 38 [v] = RE.c { x with wt := v } := by simp [splice, RE.c, List.drop_append, List.take_append, I16.c_length, List.take_of_length_le, List.drop_of_length_le]
theorem RE.at_wk (x : RE) : cellAt x.c 39 = x.wk := cellAt_get _ _ _ (by simp [RE.c, List.getElem?_append, I16.c_length])
theorem RE.set_wk (x : RE) (v : SV) : splice x.c 39 [v] = RE.c { x with wk := v } := by simp [splice, RE.c, List.drop_append, List.take_append, I16.c_length, List.take_of_length_le, List.drop_of_length_le]
theorem RE.at_wg (x : RE) : cellAt x.c 40 = x.wg := cellAt_get _ _ _ (by simp [RE.c, List.getElem?_append, I16.c_length])
theorem RE.set_wg (x : RE) (v : SV) : splice x.c 40 [v] = RE.c { x with wg := v } := by simp [splice, RE.c, List.drop_append, List.take_append, I16.c_length, List.take_of_length_le, List.drop_of_length_le]
theorem RE.part_mine (x : RE) : spart true x.c 18 2 = .agg ([x.mi, x.mn]) := by simp [spart, RE.c, List.drop_append, List.take_append, I16.c_length, List.take_of_length_le, List.drop_of_length_le]
theorem RE.set_mine (x : RE) (u_mi : SV) (u_mn : SV) : splice x.c 18 ([u_mi, u_mn]) = RE.c { x with mi := u_mi, mn := u_mn } := by simp [splice, RE.c, List.drop_append, List.take_append, I16.c_length, List.take_of_length_le, List.drop_of_length_le]
theorem RE.part_peer (x : RE) : spart true x.c 20 2 = .agg ([x.pi, x.pn]) := by simp [spart, RE.c, List.drop_append, List.take_append, I16.c_length, List.take_of_length_le, List.drop_of_length_le]
theorem RE.set_peer (x : RE) (u_pi : SV) (u_pn : SV) : splice x.c 20 ([u_pi, u_pn]) = RE.c { x with pi := u_pi, pn := u_pn } := by simp [splice, RE.c, List.drop_append, List.take_append, I16.c_length, List.take_of_length_le, List.drop_of_length_le]
theorem RE.part_w (x : RE) : spart true x.c 38 3 = .agg ([x.wt, x.wk, x.wg]) := by simp [spart, RE.c, List.drop_append, List.take_append, I16.c_length, List.take_of_length_le, List.drop_of_length_le]
theorem RE.set_w (x : RE) (u_wt : SV) (u_wk : SV) (u_wg : SV) : splice x.c 38 ([u_wt, u_wk, u_wg]) = RE.c { x with wt := u_wt, wk := u_wk, wg := u_wg } := by simp [splice, RE.c, List.drop_append, List.take_append, I16.c_length, List.take_of_length_le, List.drop_of_length_le]
theorem RE.part (x : RE) : spart true x.c 0 41 = .agg x.c := by simp [spart, List.take_of_length_le, RE.c_length]
theorem RE.set_all (x y : RE) : splice x.c 0 y.c = y.c := splice_all _ _ (by rw [RE.c_length, RE.c_length])
theorem RE.one (x : RE) : x.c.all SV.one = (x.up.one && x.op.one && x.mi.one && x.mn.one && x.pi.one && x.pn.one && x.wt.one && x.wk.one && x.wg.one) := by simp [RE.c, List.all_append, I16.one, Bool.and_assoc]
theorem RE.flat (x : RE) : SV.flatL x.c = (x.up.flat && x.op.flat && x.mi.flat && x.mn.flat && x.pi.flat && x.pn.flat && x.wt.flat && x.wk.flat && x.wg.flat) := by simp [RE.c, flatL_cons, flatL_app, I16.flat, flatL_nil, Bool.and_assoc]
theorem RE.renc (ρ : Nat → Nat) (x : RE) : SV.renL ρ x.c = RE.c ⟨x.id, SV.ren ρ x.up, SV.ren ρ x.op, SV.ren ρ x.mi, SV.ren ρ x.mn, SV.ren ρ x.pi, SV.ren ρ x.pn, x.pid, SV.ren ρ x.wt, SV.ren ρ x.wk, SV.ren ρ x.wg⟩ := by simp [RE.c, renL_cons, renL_append, renL_flat _ _ (I16.flat _), renL_nil]
theorem RE.ent {fz : Nat → Option SB} {ρ : Nat → Nat} (id : I16) (up : SV) (op : SV) (mi : SV) (mn : SV) (pi : SV) (pn : SV) (pid : I16) (wt : SV) (wk : SV) (wg : SV) (up' : SV) (op' : SV) (mi' : SV) (mn' : SV) (pi' : SV) (pn' : SV) (wt' : SV) (wk' : SV) (wg' : SV) : EntL fz ρ (RE.c ⟨id, up, op, mi, mn, pi, pn, pid, wt, wk, wg⟩) (RE.c ⟨id, up', op', mi', mn', pi', pn', pid, wt', wk', wg'⟩) = (Ent fz ρ up up' ∧ Ent fz ρ op op' ∧ Ent fz ρ mi mi' ∧ Ent fz ρ mn mn' ∧ Ent fz ρ pi pi' ∧ Ent fz ρ pn pn' ∧ Ent fz ρ wt wt' ∧ Ent fz ρ wk wk' ∧ Ent fz ρ wg wg') := by
  simp only [RE.c, EntL_pre _ _ _ (I16.flat _), EntL_cons, EntL_nil, and_true, EntL_self _ (I16.flat _)]
end Go.SL
namespace Go.Proofs
open Go Go.SL
set_option maxRecDepth 100000
def zR : RE := ⟨I16.zero, .v (.bool false), .v (.bool false), .v (.int .i64 0), .v (.int .i64 0), .v (.int .i64 0), .v (.int .i64 0), I16.zero, .v (.slice none 0 0), .v (.int .i64 0), .v (.int .i64 0)⟩
theorem bl142 (parts : List (Nat × SV)) : sBuild Try.prog 142 parts = sagg (sfill (fieldPlaceOf Try.prog 142) zR.c parts) := by
  rw [sBuild_eq, tab.z142, tab.l142]; rfl
theorem build142r (i : I16) (mi mn : SV) : sBuild Try.prog 142 [(0, .agg i.c), (1, .v (.bool true)), (3, .agg [mi, mn])] = some ⟨.agg (RE.c ⟨i, .v (.bool true), .v (.bool false), mi, mn, .v (.int .i64 0), .v (.int .i64 0), I16.zero, .v (.slice none 0 0), .v (.int .i64 0), .v (.int .i64 0)⟩), {}, True⟩ := by
  simp (disch := simp [RE.c_length, I16.c_length]) only [bl142, sfill_cons, sfill_nil, fieldPlaceOf_eq, tab.f142x0, tab.f142x1, tab.f142x3, Option.map_some, cells_int, cells_bool, cells_agg, sfill1_some, sagg_some, RE.set_id, RE.set_up, RE.set_mine, zR]
theorem build142f (i : I16) : sBuild Try.prog 142 [(0, .agg i.c)] = some ⟨.agg (RE.c ⟨i, .v (.bool false), .v (.bool false), .v (.int .i64 0), .v (.int .i64 0), .v (.int .i64 0), .v (.int .i64 0), I16.zero, .v (.slice none 0 0), .v (.int .i64 0), .v (.int .i64 0)⟩), {}, True⟩ := by
  simp (disch := simp [RE.c_length, I16.c_length]) only [bl142, sfill_cons, sfill_nil, fieldPlaceOf_eq, tab.f142x0, Option.map_some, cells_int, cells_agg, sfill1_some, sagg_some, RE.set_id, zR]
def refpc0 :=
  (And.intro (And.intro (And.intro (And.intro (And.intro @AD.c_length (And.intro @AD.flat @AD.one)) (And.intro (And.intro @AK.c_length @AK.flat) (And.intro @AK.one @CP.c_length))) (And.intro (And.intro @CP.flat (And.intro @CP.one @DR.c_length)) (And.intro (And.intro @DR.flat @DR.one) (And.intro @EC.flat @EC.one)))) (And.intro (And.intro (And.intro @FC.flat_eq (And.intro @FC.one_eq @GT.c_length)) (And.intro (And.intro @GT.flat @GT.one) (And.intro @H1.flat @H1.one))) (And.intro (And.intro @I16.flat (And.intro @I16.one @IC.c_length)) (And.intro (And.intro @IC.flat @IC.one) (And.intro @PE.c_length @PE.flat))))) (And.intro (And.intro (And.intro (And.intro @PE.one (And.intro @PK.c_length @PK.flat)) (And.intro (And.intro @PK.one @PT.c_length) (And.intro @PT.flat @PT.one))) (And.intro (And.intro @RE.flat (And.intro @RE.one @SU.c_length)) (And.intro (And.intro @SU.flat @SU.one) (And.intro @bdset_a @brow_flat)))) (And.intro (And.intro (And.intro @frm_flat (And.intro @idrs_flat @idrs_len)) (And.intro (And.intro @lrow_flat @lrow_len) (And.intro @lrows_flat @lrows_length))) (And.intro (And.intro (And.intro @trow_flat @trows_flat) (And.intro @trows_length @zD.eq_1)) (And.intro (And.intro @zE.eq_1 @zH.eq_1) (And.intro @zK.eq_1 @zR.eq_1))))))
def refpc1 :=
  (And.intro (And.intro (And.intro @EC.c_length @FC.c_length) (And.intro @H1.c_length @I16.c_length)) (And.intro (And.intro @brow_len @fh_flat) (And.intro @fk_flat @trow_len)))
def refpb0 :=
  (And.intro (And.intro refpc0 refpc1) (And.intro @RE.c_length @zF.eq_1))
def refpc2 :=
  (And.intro (And.intro (And.intro (And.intro (And.intro (And.intro @EC.at_mi @EC.at_mn) (And.intro @EC.at_op @EC.at_pi)) (And.intro (And.intro @EC.at_pn @EC.at_up) (And.intro @EC.at_w (And.intro @EC.ent @EC.part)))) (And.intro (And.intro (And.intro @EC.part_id @EC.part_mine) (And.intro @EC.part_peer @EC.part_pid)) (And.intro (And.intro @EC.renc @EC.set_all) (And.intro @EC.set_mine (And.intro @EC.set_op @EC.set_peer))))) (And.intro (And.intro (And.intro (And.intro @EC.set_pid @EC.set_up) (And.intro @EC.set_w @FC.part)) (And.intro (And.intro @FC.set_all @H1.at_fi) (And.intro @H1.at_fn (And.intro @H1.at_ti @H1.at_tn)))) (And.intro (And.intro (And.intro @H1.part @H1.part_a) (And.intro @H1.part_from @H1.part_to)) (And.intro (And.intro @H1.set_all @I16.part) (And.intro @Int.cast_ofNat_Int (And.intro @List.replicate_succ.{0} @List.replicate_zero.{0})))))) (And.intro (And.intro (And.intro (And.intro (And.intro @SKren_row @after_mk) (And.intro @al135 @al151)) (And.intro (And.intro @al162 @al210) (And.intro @al214 (And.intro @al218 @al23)))) (And.intro (And.intro (And.intro @brow_cell @build135z) (And.intro @build151a @build151h)) (And.intro (And.intro @build151z @build162z) (And.intro @build214 (And.intro @build23z @cellAt_succ))))) (And.intro (And.intro (And.intro (And.intro @cellAt_zero @mergeL_done) (And.intro @mergeL_own @mergeL_row)) (And.intro (And.intro @mk210 @mk214) (And.intro @mk218 (And.intro @renL_cons @renL_flat)))) (And.intro (And.intro (And.intro @renL_nil @ren_tup) (And.intro @sop_assert (And.intro @sp02 @sp05))) (And.intro (And.intro @sp22 @splice_0) (And.intro @splice_c (And.intro @splice_s @trow_cell)))))))
def refpc3 :=
  (And.intro (And.intro @beq_self_eq_true.{0} (And.intro @brun_a @cond_false.{1})) (And.intro (And.intro @cond_true.{1} @tab.a2) (And.intro @tab.s2 @tab.u2)))
def refpc4 :=
  (And.intro (And.intro @tab.a135 @tab.f135x0) (And.intro @tab.f135x1 (And.intro @tab.s135 @tab.u135)))
def refpb1 :=
  (And.intro (And.intro refpc2 refpc1) (And.intro refpc3 refpc4))
def refpb2 :=
  (And.intro (And.intro (And.intro refpc2 refpc1) (And.intro refpc3 refpc4)) (And.intro (And.intro @bwk_a @eq_self.{1}) (And.intro @forall_const.{1} (And.intro @implies_true.{0} @implies_true.{1}))))
theorem refLess_calls (ai an bi bn : Int) : Pure Try.prog 142 [.agg [.v (.int .i64 ai), .v (.int .i64 an)], .agg [.v (.int .i64 bi), .v (.int .i64 bn)]] (.v (.bool (decide (ai < bi) || (decide (ai = bi) && decide (an < bn))))) := by
  by_cases h : ai = bi
  · subst h
    have e1 : decide (ai < ai) = false := decide_eq_false (by omega)
    have e2 : decide (ai = ai) = true := decide_eq_true rfl
    rw [e1, e2, Bool.false_or, Bool.true_and]
    refine SCall.mk (fn := Try.f142) (by kernel_rfl) rfl (Nat.le_of_ble_eq_true (by kernel_rfl)) ?_
    refine Sem.go (k := 1000) ?_
    simp -dsimp (decide := true) (disch := first | omega | simp (decide := true) only [refpb0]) only [refpb1, ↓brun_b, envOf, reduceIte, Nat.reduceEqDiff, Nat.reduceAdd, Nat.reduceSub, Nat.reduceMul, Nat.reduceBEq, Nat.reduceLeDiff, Nat.reduceLT, Int.reduceToNat, rho]
    refine SQ.answer (rs := [.tmp 4]) rfl rfl ?_
    simp -dsimp (decide := true) (disch := first | omega | simp (decide := true) only [refpb0]) only [refpb2, ↓brun_b, envOf, reduceIte, Nat.reduceEqDiff, Nat.reduceAdd, Nat.reduceSub, Nat.reduceMul, Nat.reduceBEq, Nat.reduceLeDiff, Nat.reduceLT, Int.reduceToNat, rho, frz1, ↓reduceIte]
  · have e2 : decide (ai = bi) = false := decide_eq_false h
    rw [e2, Bool.false_and, Bool.or_false]
    refine SCall.mk (fn := Try.f142) (by kernel_rfl) rfl (Nat.le_of_ble_eq_true (by kernel_rfl)) ?_
    refine Sem.go (k := 1000) ?_
    simp -dsimp (decide := true) (disch := first | omega | simp (decide := true) only [refpb0]) only [refpb1, ↓brun_b, envOf, reduceIte, Nat.reduceEqDiff, Nat.reduceAdd, Nat.reduceSub, Nat.reduceMul, Nat.reduceBEq, Nat.reduceLeDiff, Nat.reduceLT, Int.reduceToNat, rho, e2]
    refine SQ.answer (rs := [.tmp 4]) rfl rfl ?_
    simp -dsimp (decide := true) (disch := first | omega | simp (decide := true) only [refpb0]) only [refpb2, ↓brun_b, envOf, reduceIte, Nat.reduceEqDiff, Nat.reduceAdd, Nat.reduceSub, Nat.reduceMul, Nat.reduceBEq, Nat.reduceLeDiff, Nat.reduceLT, Int.reduceToNat, rho, frz1, ↓reduceIte]
def refpc5 :=
  (And.intro (And.intro (And.intro (And.intro @RE.at_mi (And.intro @RE.at_mn @RE.at_op)) (And.intro (And.intro @RE.at_pi @RE.at_pn) (And.intro @RE.at_up @RE.at_wg))) (And.intro (And.intro (And.intro @RE.at_wk @RE.at_wt) (And.intro @RE.ent @RE.part)) (And.intro (And.intro @RE.part_id @RE.part_mine) (And.intro @RE.part_peer @RE.part_pid)))) (And.intro (And.intro (And.intro @RE.part_w (And.intro @RE.renc @RE.set_all)) (And.intro (And.intro @RE.set_mine @RE.set_op) (And.intro @RE.set_peer @RE.set_pid))) (And.intro (And.intro (And.intro @RE.set_up @RE.set_w) (And.intro @RE.set_wg @RE.set_wk)) (And.intro (And.intro @RE.set_wt @build142f) (And.intro @build142r @i16_set)))))
def refpc6 :=
  (And.intro (And.intro (And.intro (And.intro @tab.a142 @tab.a23) (And.intro @tab.a4 @tab.f142x0)) (And.intro (And.intro @tab.f142x1 @tab.f142x2) (And.intro @tab.f142x3 @tab.f142x4))) (And.intro (And.intro (And.intro @tab.f142x5 @tab.f142x6) (And.intro @tab.s142 @tab.s23)) (And.intro (And.intro @tab.s4 @tab.u142) (And.intro @tab.u23 @tab.u4))))
def refpc7 :=
  (And.intro (And.intro (And.intro (And.intro (And.intro @tab.a144 @tab.a145) (And.intro @tab.a147 @tab.a149)) (And.intro (And.intro @tab.a151 @tab.a3) (And.intro @tab.a79 (And.intro @tab.f144x0 @tab.f144x1)))) (And.intro (And.intro (And.intro @tab.f147x0 @tab.f147x1) (And.intro @tab.f149x0 @tab.f149x1)) (And.intro (And.intro @tab.f149x2 @tab.f151x1) (And.intro @tab.f151x10 (And.intro @tab.f151x11 @tab.f151x12))))) (And.intro (And.intro (And.intro (And.intro @tab.f151x2 @tab.f151x3) (And.intro @tab.f151x4 @tab.f151x8)) (And.intro (And.intro @tab.f151x9 @tab.s144) (And.intro @tab.s145 (And.intro @tab.s147 @tab.s149)))) (And.intro (And.intro (And.intro @tab.s151 @tab.s3) (And.intro @tab.s79 (And.intro @tab.u144 @tab.u145))) (And.intro (And.intro @tab.u147 @tab.u149) (And.intro @tab.u151 (And.intro @tab.u3 @tab.u79))))))
def refpc8 :=
  (And.intro (And.intro (And.intro @tab.a35 (And.intro @tab.a44 @tab.a5)) (And.intro (And.intro @tab.a54 @tab.f54x0) (And.intro @tab.f54x1 @tab.f54x2))) (And.intro (And.intro (And.intro @tab.s35 @tab.s44) (And.intro @tab.s5 @tab.s54)) (And.intro (And.intro @tab.u35 @tab.u44) (And.intro @tab.u5 @tab.u54))))
def refpc9 :=
  (And.intro (And.intro @tab.f151x0 @tab.f151x13) (And.intro @tab.f151x5 (And.intro @tab.f151x6 @tab.f151x7)))
def refpb3 :=
  (And.intro (And.intro (And.intro refpc2 refpc1) (And.intro refpc5 (And.intro refpc3 refpc4))) (And.intro (And.intro refpc6 refpc7) (And.intro refpc8 (And.intro refpc9 @RE.c_length))))
def refpb4 :=
  (And.intro (And.intro (And.intro @List.length_cons.{0} @List.length_nil.{0}) (And.intro @Nat.zero_add @roL_in)) (And.intro (And.intro @roL_nil @roL_none) (And.intro @roL_row @ro_mk)))
def refpc10 :=
  (And.intro (And.intro (And.intro (And.intro @FC.at_fi (And.intro @FC.at_fn @FC.at_is)) (And.intro @FC.at_kind (And.intro @FC.at_n @FC.at_op))) (And.intro (And.intro @FC.at_pn (And.intro @FC.at_ti @FC.at_tn)) (And.intro @FC.at_toA (And.intro @FC.at_tr @FC.at_ttl)))) (And.intro (And.intro (And.intro @FC.at_tx (And.intro @FC.at_val @FC.at_vn)) (And.intro @FC.part_P (And.intro @FC.part_a @FC.part_b))) (And.intro (And.intro @FC.part_from (And.intro @FC.part_it @FC.part_key)) (And.intro (And.intro @FC.part_to @FC.part_ver) (And.intro @FC.part_vwho @FC.part_who)))))
def refpb5 :=
  (And.intro (And.intro (And.intro refpc2 refpc1) (And.intro refpc10 (And.intro refpc5 refpc3))) (And.intro (And.intro refpc4 (And.intro refpc6 refpc7)) (And.intro refpc8 (And.intro refpc9 @RE.c_length))))
def refpb6 :=
  (And.intro (And.intro (And.intro refpc2 (And.intro refpc1 refpc5)) (And.intro (And.intro refpc3 refpc4) (And.intro refpc6 refpc7))) (And.intro (And.intro (And.intro refpc8 refpc9) (And.intro @RE.c_length @bwk_a)) (And.intro (And.intro @eq_self.{1} @forall_const.{1}) (And.intro @implies_true.{0} @implies_true.{1}))))
def refpb7 :=
  (And.intro (And.intro (And.intro (And.intro refpc2 refpc1) (And.intro refpc10 refpc5)) (And.intro (And.intro refpc3 refpc4) (And.intro refpc6 refpc7))) (And.intro (And.intro (And.intro refpc8 refpc9) (And.intro @RE.c_length @bwk_a)) (And.intro (And.intro @eq_self.{1} @forall_const.{1}) (And.intro @implies_true.{0} @implies_true.{1}))))
theorem greeting_calls (id pid : I16) (up op : Bool) (mi mn pi pn kn gt : Int) (k : Nat) (tl : Nat → List SV) :
    SCall Try.prog 137 [.ptr 0 0 0] [some (.row ⟨41, 1, false, 142, fun _ => RE.c ⟨id, .v (.bool up), .v (.bool op), .v (.int .i64 mi), .v (.int .i64 mn), .v (.int .i64 pi), .v (.int .i64 pn), pid, .slc 1 0 k, .v (.int .i64 kn), .v (.int .i64 gt)⟩⟩), some (.row ⟨1, k, false, 35, tl⟩)]
      fun r L => r = .ret (.agg (FC.c { zF with kind := .v (.int .i64 1), fi := .v (.int .i64 mi), fn := .v (.int .i64 mn), ti := .v (.int .i64 pi), tn := .v (.int .i64 pn), a := id })) ∧ L = [none, none] := by
  refine SCall.mk (fn := Try.f137) (by kernel_rfl) rfl (Nat.le_of_ble_eq_true (by kernel_rfl)) ?_
  refine Sem.go (k := 1000) ?_
  simp -dsimp (decide := true) (disch := first | omega | simp (decide := true) only [refpb0]) only [refpb3, ↓brun_b, envOf, reduceIte, Nat.reduceEqDiff, Nat.reduceAdd, Nat.reduceSub, Nat.reduceMul, Nat.reduceBEq, Nat.reduceLeDiff, Nat.reduceLT, Int.reduceToNat, rho]
  refine Sem.draw' (by kernel_rfl) (.one 0 (.one 1 (.one 2 (.one 3 (.one 4 (.one 5 (.one 6 (.one 7 (.one 8 (.one 9 (.one 10 (.one 11 (.one 12 (.alt 13 .done .non)))))))))))))) [2] (by kernel_rfl) (fun G ff hG hf => ?_)
  simp (decide := true) only [refpb4, Nat.reduceAdd] at hG ⊢
  simp -dsimp (decide := true) (disch := first | omega | simp (decide := true) only [refpb0]) only [refpb3, ↓brun_b, envOf, reduceIte, Nat.reduceEqDiff, Nat.reduceAdd, Nat.reduceSub, Nat.reduceMul, Nat.reduceBEq, Nat.reduceLeDiff, Nat.reduceLT, Int.reduceToNat, rho, hG]
  refine hf _ (Sem.go (k := 1000) ?_)
  simp (decide := true) only [back_mk, backL_in, backL_row, backL_none, backL_nil, Nat.zero_add, Nat.reduceAdd]
  simp -dsimp (decide := true) (disch := first | omega | simp (decide := true) only [refpb0]) only [refpb5, ↓brun_b, envOf, reduceIte, Nat.reduceEqDiff, Nat.reduceAdd, Nat.reduceSub, Nat.reduceMul, Nat.reduceBEq, Nat.reduceLeDiff, Nat.reduceLT, Int.reduceToNat, rho]
  refine SQ.runL (rs := [.cell 2 151]) [0, 1] _ _ rfl (And.intro rfl rfl) (by decide) rfl rfl ?_ ?_
  · simp -dsimp (decide := true) (disch := first | omega | simp (decide := true) only [refpb0]) only [refpb6, ↓brun_b, envOf, reduceIte, Nat.reduceEqDiff, Nat.reduceAdd, Nat.reduceSub, Nat.reduceMul, Nat.reduceBEq, Nat.reduceLeDiff, Nat.reduceLT, Int.reduceToNat, rho, frz1, ↓reduceIte]
  · simp -dsimp (decide := true) (disch := first | omega | simp (decide := true) only [refpb0]) only [refpb7, ↓brun_b, envOf, reduceIte, Nat.reduceEqDiff, Nat.reduceAdd, Nat.reduceSub, Nat.reduceMul, Nat.reduceBEq, Nat.reduceLeDiff, Nat.reduceLT, Int.reduceToNat, rho, frz1, ↓reduceIte]
end Go.Proofs
namespace Go.SL
open Go
theorem RE.lset (x : RE) (v : SV) : x.c.set 38 v = RE.c { x with wt := v } := by simp [RE.c, List.set_append, I16.c_length]
theorem RE.get38 (x : RE) : x.c[38]? = some x.wt := by simp [RE.c, List.getElem?_append, I16.c_length]
end Go.SL
namespace Go.Proofs
open Go Go.SL
set_option maxRecDepth 100000
def refpb8 :=
  (And.intro (And.intro (And.intro (And.intro refpc2 refpc1) (And.intro refpc5 refpc3)) (And.intro (And.intro refpc4 refpc6) (And.intro refpc7 refpc8))) (And.intro (And.intro (And.intro refpc9 @RE.c_length) (And.intro @tab.a124 @tab.a140)) (And.intro (And.intro @tab.s124 @tab.s140) (And.intro @tab.u124 @tab.u140))))
def refpb9 :=
  (And.intro (And.intro (And.intro (And.intro refpc2 refpc1) (And.intro refpc5 refpc3)) (And.intro (And.intro refpc4 refpc6) (And.intro refpc7 refpc8))) (And.intro (And.intro (And.intro refpc9 @RE.c_length) (And.intro @RE.lset @tab.a124)) (And.intro (And.intro @tab.a140 @tab.s124) (And.intro @tab.s140 (And.intro @tab.u124 @tab.u140)))))
def refpb10 :=
  (And.intro (And.intro (And.intro (And.intro refpc2 refpc1) (And.intro refpc5 (And.intro refpc3 refpc4))) (And.intro (And.intro refpc6 refpc7) (And.intro refpc8 (And.intro refpc9 @RE.c_length)))) (And.intro (And.intro (And.intro @bwk_a @eq_self.{1}) (And.intro @forall_const.{1} (And.intro @implies_true.{0} @implies_true.{1}))) (And.intro (And.intro @tab.a124 (And.intro @tab.a140 @tab.s124)) (And.intro @tab.s140 (And.intro @tab.u124 @tab.u140)))))
def refpb11 :=
  (And.intro (And.intro (And.intro refpc3 (And.intro refpc4 refpc6)) (And.intro refpc7 (And.intro refpc8 refpc9))) (And.intro (And.intro @tab.a124 (And.intro @tab.a140 @tab.s124)) (And.intro @tab.s140 (And.intro @tab.u124 @tab.u140))))
def refpb12 :=
  (And.intro (And.intro (And.intro (And.intro refpc2 refpc1) (And.intro refpc5 refpc3)) (And.intro (And.intro refpc4 refpc6) (And.intro refpc7 refpc8))) (And.intro (And.intro (And.intro refpc9 @RE.c_length) (And.intro @bs124 @tab.a124)) (And.intro (And.intro @tab.a140 @tab.s124) (And.intro @tab.s140 (And.intro @tab.u124 @tab.u140)))))
theorem refRise_calls (id pid : I16) (op : Bool) (mi mn pi pn kn gt ni nn : Int) (k : Nat) (ts : List (List UInt8)) :
    SCall Try.prog 97 [.ptr 0 0 0, .agg [.v (.int .i64 ni), .v (.int .i64 nn)]] [some (.row ⟨41, 1, true, 142, fun _ => RE.c ⟨id, .v (.bool false), .v (.bool op), .v (.int .i64 mi), .v (.int .i64 mn), .v (.int .i64 pi), .v (.int .i64 pn), pid, .slc 1 0 k, .v (.int .i64 kn), .v (.int .i64 gt)⟩⟩), some (.row ⟨1, k, false, 35, trow ts⟩)]
      fun r L => r = .ret (.slc 3 0 1) ∧ L = [some (.row ⟨41, 1, true, 142, fun _ => RE.c ⟨id, .v (.bool true), .v (.bool false), .v (.int .i64 ni), .v (.int .i64 nn), .v (.int .i64 0), .v (.int .i64 0), I16.zero, .slc 2 0 0, .v (.int .i64 0), .v (.int .i64 0)⟩⟩), none, some (.row ⟨1, 0, true, 35, trow []⟩), some (.row ⟨95, 1, true, 151, fun _ => FC.c { zF with kind := .v (.int .i64 1), fi := .v (.int .i64 ni), fn := .v (.int .i64 nn), ti := .v (.int .i64 0), tn := .v (.int .i64 0), a := id }⟩)] := by
  refine SCall.mk (fn := Try.f97) (by kernel_rfl) rfl (Nat.le_of_ble_eq_true (by kernel_rfl)) ?_
  refine Sem.go (k := 1000) ?_
  simp -dsimp (decide := true) (disch := first | omega | simp (decide := true) only [refpb0]) only [refpb8, ↓brun_b, envOf, reduceIte, Nat.reduceEqDiff, Nat.reduceAdd, Nat.reduceSub, Nat.reduceMul, Nat.reduceBEq, Nat.reduceLeDiff, Nat.reduceLT, Int.reduceToNat, rho]
  refine Lent.ops (Lent.ghostB 0 38 1 35 rfl (RE.get38 _)) (SemOps.go (k := 1000) ?_)
  simp -dsimp (decide := true) (disch := first | omega | simp (decide := true) only [refpb0]) only [refpb9, ↓brun_b, envOf, reduceIte, Nat.reduceEqDiff, Nat.reduceAdd, Nat.reduceSub, Nat.reduceMul, Nat.reduceBEq, Nat.reduceLeDiff, Nat.reduceLT, Int.reduceToNat, rho]
  refine SemOps.callw [0, 4] cal.f137 (greeting_calls id I16.zero true false ni nn 0 0 0 0 0 (trow [])) rfl rfl rfl (by simp -dsimp (decide := true) (disch := first | omega | simp (decide := true) only [refpb0]) only [refpb10, ↓brun_b, envOf, reduceIte, Nat.reduceEqDiff, Nat.reduceAdd, Nat.reduceSub, Nat.reduceMul, Nat.reduceBEq, Nat.reduceLeDiff, Nat.reduceLT, Int.reduceToNat, rho, frz1, ↓reduceIte]) rfl (by simp -dsimp (decide := true) (disch := first | omega | simp (decide := true) only [refpb0]) only [refpb10, ↓brun_b, envOf, reduceIte, Nat.reduceEqDiff, Nat.reduceAdd, Nat.reduceSub, Nat.reduceMul, Nat.reduceBEq, Nat.reduceLeDiff, Nat.reduceLT, Int.reduceToNat, rho, frz1, ↓reduceIte]) (by simp -dsimp (decide := true) (disch := first | omega | simp (decide := true) only [refpb0]) only [refpb11, ↓brun_b, envOf, reduceIte, Nat.reduceEqDiff, Nat.reduceAdd, Nat.reduceSub, Nat.reduceMul, Nat.reduceBEq, Nat.reduceLeDiff, Nat.reduceLT, Int.reduceToNat]) ?_
  refine SemOps.go (k := 1000) ?_
  simp -dsimp (decide := true) (disch := first | omega | simp (decide := true) only [refpb0]) only [refpb12, ↓brun_b, envOf, reduceIte, Nat.reduceEqDiff, Nat.reduceAdd, Nat.reduceSub, Nat.reduceMul, Nat.reduceBEq, Nat.reduceLeDiff, Nat.reduceLT, Int.reduceToNat, rho]
  refine SQ.runL (rs := [.tmp 4]) [0, 1, 4, 5] _ _ rfl (And.intro rfl rfl) (by decide) rfl rfl ?_ ?_
  · simp -dsimp (decide := true) (disch := first | omega | simp (decide := true) only [refpb0]) only [refpb10, ↓brun_b, envOf, reduceIte, Nat.reduceEqDiff, Nat.reduceAdd, Nat.reduceSub, Nat.reduceMul, Nat.reduceBEq, Nat.reduceLeDiff, Nat.reduceLT, Int.reduceToNat, rho, frz1, ↓reduceIte]
    exact fun e he => one124 _ e he (fh_flat _ _ _ _ _)
  · simp -dsimp (decide := true) (disch := first | omega | simp (decide := true) only [refpb0]) only [refpb10, ↓brun_b, envOf, reduceIte, Nat.reduceEqDiff, Nat.reduceAdd, Nat.reduceSub, Nat.reduceMul, Nat.reduceBEq, Nat.reduceLeDiff, Nat.reduceLT, Int.reduceToNat, rho, frz1, ↓reduceIte]
def refpb13 :=
  (And.intro (And.intro (And.intro refpc2 refpc1) (And.intro refpc5 refpc3)) (And.intro (And.intro refpc4 refpc6) (And.intro refpc8 @RE.c_length)))
def refpb14 :=
  (And.intro (And.intro (And.intro refpc2 refpc1) (And.intro refpc5 refpc3)) (And.intro (And.intro refpc4 refpc6) (And.intro refpc8 (And.intro @RE.c_length @RE.lset))))
def refpb15 :=
  (And.intro (And.intro (And.intro refpc2 (And.intro refpc1 refpc5)) (And.intro refpc3 (And.intro refpc4 refpc6))) (And.intro (And.intro refpc8 (And.intro @RE.c_length @bwk_a)) (And.intro (And.intro @eq_self.{1} @forall_const.{1}) (And.intro @implies_true.{0} @implies_true.{1}))))
theorem refFall_calls (id pid : I16) (up op : Bool) (mi mn pi pn kn gt : Int) (k : Nat) (ts : List (List UInt8)) :
    SCall Try.prog 99 [.ptr 0 0 0] [some (.row ⟨41, 1, true, 142, fun _ => RE.c ⟨id, .v (.bool up), .v (.bool op), .v (.int .i64 mi), .v (.int .i64 mn), .v (.int .i64 pi), .v (.int .i64 pn), pid, .slc 1 0 k, .v (.int .i64 kn), .v (.int .i64 gt)⟩⟩), some (.row ⟨1, k, false, 35, trow ts⟩)]
      fun r L => r = .ret (.v (.bool op)) ∧ L = [some (.row ⟨41, 1, true, 142, fun _ => RE.c ⟨id, .v (.bool false), .v (.bool false), .v (.int .i64 0), .v (.int .i64 0), .v (.int .i64 0), .v (.int .i64 0), I16.zero, .slc 2 0 0, .v (.int .i64 0), .v (.int .i64 0)⟩⟩), none, some (.row ⟨1, 0, true, 35, trow []⟩)] := by
  refine SCall.mk (fn := Try.f99) (by kernel_rfl) rfl (Nat.le_of_ble_eq_true (by kernel_rfl)) ?_
  refine Sem.go (k := 1000) ?_
  simp -dsimp (decide := true) (disch := first | omega | simp (decide := true) only [refpb0]) only [refpb13, ↓brun_b, envOf, reduceIte, Nat.reduceEqDiff, Nat.reduceAdd, Nat.reduceSub, Nat.reduceMul, Nat.reduceBEq, Nat.reduceLeDiff, Nat.reduceLT, Int.reduceToNat, rho]
  refine Sem.draw' (by kernel_rfl) (.one 0 (.one 1 (.one 2 (.one 3 (.one 4 (.one 5 (.one 6 (.one 7 (.alt 8 (.one 9 (.alt 10 .done .non)) .non))))))))) [] (by kernel_rfl) (fun G ff hG hf => ?_)
  simp (decide := true) only [refpb4, Nat.reduceAdd] at hG ⊢
  simp -dsimp (decide := true) (disch := first | omega | simp (decide := true) only [refpb0]) only [refpb13, ↓brun_b, envOf, reduceIte, Nat.reduceEqDiff, Nat.reduceAdd, Nat.reduceSub, Nat.reduceMul, Nat.reduceBEq, Nat.reduceLeDiff, Nat.reduceLT, Int.reduceToNat, rho, hG]
  refine hf _ ?_
  simp (decide := true) only [back_mk, backL_in, backL_row, backL_none, backL_nil, Nat.zero_add, Nat.reduceAdd]
  refine Sem.go (k := 2) ?_
  simp -dsimp (decide := true) (disch := first | omega | simp (decide := true) only [refpb0]) only [refpb13, ↓brun_b, envOf, reduceIte, Nat.reduceEqDiff, Nat.reduceAdd, Nat.reduceSub, Nat.reduceMul, Nat.reduceBEq, Nat.reduceLeDiff, Nat.reduceLT, Int.reduceToNat, rho]
  refine Lent.sem (Lent.ghostB 0 38 1 35 rfl (RE.get38 _)) (Sem.go (k := 1000) ?_)
  simp -dsimp (decide := true) (disch := first | omega | simp (decide := true) only [refpb0]) only [refpb14, ↓brun_b, envOf, reduceIte, Nat.reduceEqDiff, Nat.reduceAdd, Nat.reduceSub, Nat.reduceMul, Nat.reduceBEq, Nat.reduceLeDiff, Nat.reduceLT, Int.reduceToNat, rho]
  refine SQ.runL (rs := [.tmp 2]) [0, 1, 3] _ _ rfl (And.intro rfl rfl) (by decide) rfl rfl ?_ ?_
  · simp -dsimp (decide := true) (disch := first | omega | simp (decide := true) only [refpb0]) only [refpb15, ↓brun_b, envOf, reduceIte, Nat.reduceEqDiff, Nat.reduceAdd, Nat.reduceSub, Nat.reduceMul, Nat.reduceBEq, Nat.reduceLeDiff, Nat.reduceLT, Int.reduceToNat, rho, frz1, ↓reduceIte]
  · simp -dsimp (decide := true) (disch := first | omega | simp (decide := true) only [refpb0]) only [refpb15, ↓brun_b, envOf, reduceIte, Nat.reduceEqDiff, Nat.reduceAdd, Nat.reduceSub, Nat.reduceMul, Nat.reduceBEq, Nat.reduceLeDiff, Nat.reduceLT, Int.reduceToNat, rho, frz1, ↓reduceIte]
end Go.Proofs
namespace Go.Proofs
open Go Go.SL
set_option maxRecDepth 100000
def refpb16 :=
  (And.intro (And.intro refpc2 (And.intro refpc1 refpc5)) (And.intro refpc3 (And.intro refpc8 @RE.c_length)))
def refpb17 :=
  (And.intro (And.intro (And.intro refpc2 refpc1) (And.intro refpc5 (And.intro refpc3 refpc8))) (And.intro (And.intro @RE.c_length (And.intro @bwk_a @eq_self.{1})) (And.intro @forall_const.{1} (And.intro @implies_true.{0} @implies_true.{1}))))
def refpb18 :=
  (And.intro (And.intro (And.intro refpc2 refpc1) (And.intro refpc5 refpc3)) (And.intro (And.intro refpc8 @RE.c_length) (And.intro @bs35_0 @bs44s)))
theorem refSendE_calls (id pid : I16) (up op : Bool) (mi mn pi pn kn gt : Int) (ts : List (List UInt8)) (t : List UInt8) (h0 : ts.length < 4611686018427387904) (h1 : (ts.length + 1) * 24 ≤ 140737488355328) (h2 : t.length ≤ 140737488355328) :
    SCall Try.prog 51 [.ptr 0 0 38, bsl t] [some (.row ⟨41, 1, true, 142, fun _ => RE.c ⟨id, .v (.bool up), .v (.bool op), .v (.int .i64 mi), .v (.int .i64 mn), .v (.int .i64 pi), .v (.int .i64 pn), pid, .slc 1 0 ts.length, .v (.int .i64 kn), .v (.int .i64 gt)⟩⟩), some (.row ⟨1, ts.length, true, 35, trow ts⟩)]
      fun r L => r = .ret (.v (.int .i64 ((ts.length + 1 : Nat) : Int))) ∧ L = [some (.row ⟨41, 1, true, 142, fun _ => RE.c ⟨id, .v (.bool up), .v (.bool op), .v (.int .i64 mi), .v (.int .i64 mn), .v (.int .i64 pi), .v (.int .i64 pn), pid, .slc 2 0 (ts.length + 1), .v (.int .i64 kn), .v (.int .i64 gt)⟩⟩), none, some (.row ⟨1, ts.length + 1, true, 35, trow (ts ++ [t])⟩)] := by
  refine SCall.mk (fn := Try.f51) (by kernel_rfl) rfl (Nat.le_of_ble_eq_true (by kernel_rfl)) ?_
  refine Sem.go (k := 1000) ?_
  simp -dsimp (decide := true) (disch := first | omega | simp (decide := true) only [refpb0]) only [refpb16, ↓brun_b, envOf, reduceIte, Nat.reduceEqDiff, Nat.reduceAdd, Nat.reduceSub, Nat.reduceMul, Nat.reduceBEq, Nat.reduceLeDiff, Nat.reduceLT, Int.reduceToNat, rho]
  refine Sem.draw' (by kernel_rfl) (.one 0 (.one 1 (.one 2 (.one 3 (.one 6 (.alt 4 (.alt 5 (.alt 7 (.alt 8 (.alt 9 (.one 10 (.one 11 (.alt 12 .done .non))) .non) .non) .non) .non) (.alt 5 (.alt 4 (.alt 7 (.alt 8 (.alt 9 (.one 10 (.one 11 (.alt 12 .done .non))) .non) .non) .non) (.alt 7 (.alt 4 (.alt 8 (.alt 9 (.one 10 (.one 11 (.alt 12 .done .non))) .non) .non) (.alt 8 (.alt 4 (.alt 9 (.one 10 (.one 11 (.alt 12 .done .non))) .non) .non) .non)) .non)) .non))))))) [0, 1] (by kernel_rfl) (fun G ff hG hf => ?_)
  simp (decide := true) only [refpb4, Nat.reduceAdd] at hG ⊢
  have hf2 := fun hc s' l wk => hf s' (Sem.weaken (s' := ⟨22, 2, [(0, .ptr 0 0 38)], [some (.row ⟨41, 1, true, 142, fun _ => RE.c ⟨id, .v (.bool up), .v (.bool op), .v (.int .i64 mi), .v (.int .i64 mn), .v (.int .i64 pi), .v (.int .i64 pn), pid, .slc 2 0 (ts.length + 1), .v (.int .i64 kn), .v (.int .i64 gt)⟩⟩), none, some (.row ⟨1, ts.length + 1, true, 35, trow (ts ++ [t])⟩)]⟩) l wk hc)
  replace hf2 := hf2 (by
    refine Sem.go (k := 1000) ?_
    simp -dsimp (decide := true) (disch := first | omega | simp (decide := true) only [refpb0]) only [refpb16, ↓brun_b, envOf, reduceIte, Nat.reduceEqDiff, Nat.reduceAdd, Nat.reduceSub, Nat.reduceMul, Nat.reduceBEq, Nat.reduceLeDiff, Nat.reduceLT, Int.reduceToNat, rho]
    refine SQ.runL (rs := [.tmp 4]) [0, 1, 2] _ _ rfl (And.intro rfl rfl) (by decide) rfl rfl ?_ ?_
    · simp -dsimp (decide := true) (disch := first | omega | simp (decide := true) only [refpb0]) only [refpb17, ↓brun_b, envOf, reduceIte, Nat.reduceEqDiff, Nat.reduceAdd, Nat.reduceSub, Nat.reduceMul, Nat.reduceBEq, Nat.reduceLeDiff, Nat.reduceLT, Int.reduceToNat, rho, frz1, ↓reduceIte]
    · simp -dsimp (decide := true) (disch := first | omega | simp (decide := true) only [refpb0]) only [refpb17, ↓brun_b, envOf, reduceIte, Nat.reduceEqDiff, Nat.reduceAdd, Nat.reduceSub, Nat.reduceMul, Nat.reduceBEq, Nat.reduceLeDiff, Nat.reduceLT, Int.reduceToNat, rho, frz1, ↓reduceIte])
  simp -dsimp (decide := true) (disch := first | omega | simp (decide := true) only [refpb0]) only [refpb18, ↓brun_b, envOf, reduceIte, Nat.reduceEqDiff, Nat.reduceAdd, Nat.reduceSub, Nat.reduceMul, Nat.reduceBEq, Nat.reduceLeDiff, Nat.reduceLT, Int.reduceToNat, rho, hG, sapp1_sl el5, sapp1_sl el35, h1, h2, Nat.le_refl]
  repeat' (first | (refine And.intro ?_ ?_) | (refine hf2 _ [0, 1, 5] ?_; simp (decide := true) only [back_mk, backL_in, backL_row, backL_none, backL_nil, Nat.zero_add, Nat.reduceAdd]; (refine Wk.ofC ?_; simp -dsimp (decide := true) (disch := first | omega | simp (decide := true) only [refpb0]) only [refpb17, ↓brun_b, envOf, reduceIte, Nat.reduceEqDiff, Nat.reduceAdd, Nat.reduceSub, Nat.reduceMul, Nat.reduceBEq, Nat.reduceLeDiff, Nat.reduceLT, Int.reduceToNat, rho, frz1, ↓reduceIte]); exact fun e he => ent_send ts t e rfl rfl (copy_el t) he))
  done
end Go.Proofs
namespace Go.Proofs
open Go Go.SL
set_option maxRecDepth 100000
theorem refAcked_noE (id pid : I16) (up op : Bool) (mi mn pi pn : Int) (kn n gt : Int) (k : Nat) (el : Nat → List SV) (h : n ≤ kn ∨ (k : Int) < n) :
    SCall Try.prog 53 [.ptr 0 0 38, .v (.int .i64 n)] [some (.row ⟨41, 1, false, 142, fun _ => RE.c ⟨id, .v (.bool up), .v (.bool op), .v (.int .i64 mi), .v (.int .i64 mn), .v (.int .i64 pi), .v (.int .i64 pn), pid, .slc 1 0 k, .v (.int .i64 kn), .v (.int .i64 gt)⟩⟩), some (.row ⟨1, k, false, 35, el⟩)]
      fun r L => r = .ret (.v (.int .i64 0)) ∧ L = [none, none] := by
  by_cases h1 : n ≤ kn
  · refine SCall.mk (fn := Try.f53) (by kernel_rfl) rfl (Nat.le_of_ble_eq_true (by kernel_rfl)) ?_
    refine Sem.go (k := 1000) ?_
    simp -dsimp (decide := true) (disch := first | omega | simp (decide := true) only [refpb0]) only [refpb16, ↓brun_b, envOf, reduceIte, Nat.reduceEqDiff, Nat.reduceAdd, Nat.reduceSub, Nat.reduceMul, Nat.reduceBEq, Nat.reduceLeDiff, Nat.reduceLT, Int.reduceToNat, rho, decide_eq_true h1]
    refine SQ.runL (rs := [.tmp 4]) [0, 1] _ _ rfl (And.intro rfl rfl) (by decide) rfl rfl ?_ ?_
    · simp -dsimp (decide := true) (disch := first | omega | simp (decide := true) only [refpb0]) only [refpb17, ↓brun_b, envOf, reduceIte, Nat.reduceEqDiff, Nat.reduceAdd, Nat.reduceSub, Nat.reduceMul, Nat.reduceBEq, Nat.reduceLeDiff, Nat.reduceLT, Int.reduceToNat, rho, frz1, ↓reduceIte]
    · simp -dsimp (decide := true) (disch := first | omega | simp (decide := true) only [refpb0]) only [refpb17, ↓brun_b, envOf, reduceIte, Nat.reduceEqDiff, Nat.reduceAdd, Nat.reduceSub, Nat.reduceMul, Nat.reduceBEq, Nat.reduceLeDiff, Nat.reduceLT, Int.reduceToNat, rho, frz1, ↓reduceIte]
  · have h2 : (k : Int) < n := by omega
    refine SCall.mk (fn := Try.f53) (by kernel_rfl) rfl (Nat.le_of_ble_eq_true (by kernel_rfl)) ?_
    refine Sem.go (k := 1000) ?_
    simp -dsimp (decide := true) (disch := first | omega | simp (decide := true) only [refpb0]) only [refpb16, ↓brun_b, envOf, reduceIte, Nat.reduceEqDiff, Nat.reduceAdd, Nat.reduceSub, Nat.reduceMul, Nat.reduceBEq, Nat.reduceLeDiff, Nat.reduceLT, Int.reduceToNat, rho, decide_eq_false h1, decide_eq_true h2]
    refine SQ.runL (rs := [.tmp 4]) [0, 1] _ _ rfl (And.intro rfl rfl) (by decide) rfl rfl ?_ ?_
    · simp -dsimp (decide := true) (disch := first | omega | simp (decide := true) only [refpb0]) only [refpb17, ↓brun_b, envOf, reduceIte, Nat.reduceEqDiff, Nat.reduceAdd, Nat.reduceSub, Nat.reduceMul, Nat.reduceBEq, Nat.reduceLeDiff, Nat.reduceLT, Int.reduceToNat, rho, frz1, ↓reduceIte]
    · simp -dsimp (decide := true) (disch := first | omega | simp (decide := true) only [refpb0]) only [refpb17, ↓brun_b, envOf, reduceIte, Nat.reduceEqDiff, Nat.reduceAdd, Nat.reduceSub, Nat.reduceMul, Nat.reduceBEq, Nat.reduceLeDiff, Nat.reduceLT, Int.reduceToNat, rho, frz1, ↓reduceIte]
theorem refAcked_yesE (id pid : I16) (up op : Bool) (mi mn pi pn : Int) (kn n gt : Int) (k : Nat) (el : Nat → List SV) (h0 : 0 ≤ kn) (h1 : kn < n) (h2 : n ≤ (k : Int)) (h3 : k < 4611686018427387904) :
    SCall Try.prog 53 [.ptr 0 0 38, .v (.int .i64 n)] [some (.row ⟨41, 1, true, 142, fun _ => RE.c ⟨id, .v (.bool up), .v (.bool op), .v (.int .i64 mi), .v (.int .i64 mn), .v (.int .i64 pi), .v (.int .i64 pn), pid, .slc 1 0 k, .v (.int .i64 kn), .v (.int .i64 gt)⟩⟩), some (.row ⟨1, k, false, 35, el⟩)]
      fun r L => r = .ret (.v (.int .i64 (n - kn))) ∧ L = [some (.row ⟨41, 1, true, 142, fun _ => RE.c ⟨id, .v (.bool up), .v (.bool op), .v (.int .i64 mi), .v (.int .i64 mn), .v (.int .i64 pi), .v (.int .i64 pn), pid, .slc 1 0 k, .v (.int .i64 n), .v (.int .i64 gt)⟩⟩), none] := by
  have h4 : ¬ n ≤ kn := by omega
  have h5 : ¬ (k : Int) < n := by omega
  have hw : IntKind.i64.wrap (n - kn) = n - kn := wrap_i64 _ (by omega)
  refine SCall.mk (fn := Try.f53) (by kernel_rfl) rfl (Nat.le_of_ble_eq_true (by kernel_rfl)) ?_
  refine Sem.go (k := 1000) ?_
  simp -dsimp (decide := true) (disch := first | omega | simp (decide := true) only [refpb0]) only [refpb16, ↓brun_b, envOf, reduceIte, Nat.reduceEqDiff, Nat.reduceAdd, Nat.reduceSub, Nat.reduceMul, Nat.reduceBEq, Nat.reduceLeDiff, Nat.reduceLT, Int.reduceToNat, rho, decide_eq_false h4, decide_eq_false h5, hw]
  refine SQ.runL (rs := [.tmp 4]) [0, 1] _ _ rfl (And.intro rfl rfl) (by decide) rfl rfl ?_ ?_
  · simp -dsimp (decide := true) (disch := first | omega | simp (decide := true) only [refpb0]) only [refpb17, ↓brun_b, envOf, reduceIte, Nat.reduceEqDiff, Nat.reduceAdd, Nat.reduceSub, Nat.reduceMul, Nat.reduceBEq, Nat.reduceLeDiff, Nat.reduceLT, Int.reduceToNat, rho, frz1, ↓reduceIte]
  · simp -dsimp (decide := true) (disch := first | omega | simp (decide := true) only [refpb0]) only [refpb17, ↓brun_b, envOf, reduceIte, Nat.reduceEqDiff, Nat.reduceAdd, Nat.reduceSub, Nat.reduceMul, Nat.reduceBEq, Nat.reduceLeDiff, Nat.reduceLT, Int.reduceToNat, rho, frz1, ↓reduceIte]
theorem refCame_callsE (id pid : I16) (up op : Bool) (mi mn pi pn : Int) (kn n : Int) (gt : Nat) (k : Nat) (el : Nat → List SV) (hg : (gt : Int) < 4611686018427387904) :
    SCall Try.prog 55 [.ptr 0 0 38, .v (.int .i64 n)] [some (.row ⟨41, 1, true, 142, fun _ => RE.c ⟨id, .v (.bool up), .v (.bool op), .v (.int .i64 mi), .v (.int .i64 mn), .v (.int .i64 pi), .v (.int .i64 pn), pid, .slc 1 0 k, .v (.int .i64 kn), .v (.int .i64 (gt : Int))⟩⟩), some (.row ⟨1, k, false, 35, el⟩)]
      fun r L => r = .ret (.v (.bool (decide (n = (gt : Int) + 1)))) ∧ L = [some (.row ⟨41, 1, true, 142, fun _ => RE.c ⟨id, .v (.bool up), .v (.bool op), .v (.int .i64 mi), .v (.int .i64 mn), .v (.int .i64 pi), .v (.int .i64 pn), pid, .slc 1 0 k, .v (.int .i64 kn), .v (.int .i64 ((if n = (gt : Int) + 1 then gt + 1 else gt : Nat) : Int))⟩⟩), none] := by
  have h1 : ¬ 4611686018427387904 ≤ (gt : Int) := by omega
  have hw : IntKind.i64.wrap ((gt : Int) + 1) = (gt : Int) + 1 := wrap_i64 _ (by omega)
  refine SCall.mk (fn := Try.f55) (by kernel_rfl) rfl (Nat.le_of_ble_eq_true (by kernel_rfl)) ?_
  refine Sem.go (k := 1000) ?_
  simp -dsimp (decide := true) (disch := first | omega | simp (decide := true) only [refpb0]) only [refpb16, ↓brun_b, envOf, reduceIte, Nat.reduceEqDiff, Nat.reduceAdd, Nat.reduceSub, Nat.reduceMul, Nat.reduceBEq, Nat.reduceLeDiff, Nat.reduceLT, Int.reduceToNat, rho, decide_eq_false h1, hw]
  refine SCond.split (fun h => ?_) (fun h => ?_)
  · simp only [Bool.not_eq_true', decide_eq_false_iff_not] at h
    simp -dsimp (decide := true) (disch := first | omega | simp (decide := true) only [refpb0]) only [refpb16, ↓brun_b, envOf, reduceIte, Nat.reduceEqDiff, Nat.reduceAdd, Nat.reduceSub, Nat.reduceMul, Nat.reduceBEq, Nat.reduceLeDiff, Nat.reduceLT, Int.reduceToNat, rho, if_neg h, decide_eq_false h]
    refine SQ.runL (rs := [.tmp 4]) [0, 1] _ _ rfl (And.intro rfl rfl) (by decide) rfl rfl ?_ ?_
    · simp -dsimp (decide := true) (disch := first | omega | simp (decide := true) only [refpb0]) only [refpb17, ↓brun_b, envOf, reduceIte, Nat.reduceEqDiff, Nat.reduceAdd, Nat.reduceSub, Nat.reduceMul, Nat.reduceBEq, Nat.reduceLeDiff, Nat.reduceLT, Int.reduceToNat, rho, frz1, ↓reduceIte]
    · simp -dsimp (decide := true) (disch := first | omega | simp (decide := true) only [refpb0]) only [refpb17, ↓brun_b, envOf, reduceIte, Nat.reduceEqDiff, Nat.reduceAdd, Nat.reduceSub, Nat.reduceMul, Nat.reduceBEq, Nat.reduceLeDiff, Nat.reduceLT, Int.reduceToNat, rho, frz1, ↓reduceIte]
  · simp only [Bool.not_eq_false', decide_eq_true_eq] at h
    subst h
    have e : ((gt + 1 : Nat) : Int) = (gt : Int) + 1 := rfl
    simp -dsimp (decide := true) (disch := first | omega | simp (decide := true) only [refpb0]) only [refpb16, ↓brun_b, envOf, reduceIte, Nat.reduceEqDiff, Nat.reduceAdd, Nat.reduceSub, Nat.reduceMul, Nat.reduceBEq, Nat.reduceLeDiff, Nat.reduceLT, Int.reduceToNat, rho, if_pos, e]
    refine SQ.runL (rs := [.tmp 4]) [0, 1] _ _ rfl (And.intro rfl rfl) (by decide) rfl rfl ?_ ?_
    · simp -dsimp (decide := true) (disch := first | omega | simp (decide := true) only [refpb0]) only [refpb17, ↓brun_b, envOf, reduceIte, Nat.reduceEqDiff, Nat.reduceAdd, Nat.reduceSub, Nat.reduceMul, Nat.reduceBEq, Nat.reduceLeDiff, Nat.reduceLT, Int.reduceToNat, rho, frz1, ↓reduceIte]
    · simp -dsimp (decide := true) (disch := first | omega | simp (decide := true) only [refpb0]) only [refpb17, ↓brun_b, envOf, reduceIte, Nat.reduceEqDiff, Nat.reduceAdd, Nat.reduceSub, Nat.reduceMul, Nat.reduceBEq, Nat.reduceLeDiff, Nat.reduceLT, Int.reduceToNat, rho, frz1, ↓reduceIte]
theorem refWaits_callsE (id pid : I16) (up op : Bool) (mi mn pi pn : Int) (kn : Nat) (gt : Int) (k : Nat) (el : Nat → List SV) (h : kn ≤ k) (h3 : k < 4611686018427387904) :
    SCall Try.prog 57 [.ptr 0 0 38] [some (.row ⟨41, 1, false, 142, fun _ => RE.c ⟨id, .v (.bool up), .v (.bool op), .v (.int .i64 mi), .v (.int .i64 mn), .v (.int .i64 pi), .v (.int .i64 pn), pid, .slc 1 0 k, .v (.int .i64 (kn : Int)), .v (.int .i64 gt)⟩⟩), some (.row ⟨1, k, false, 35, el⟩)]
      fun r L => r = .ret (.tup [.v (.int .i64 ((kn + 1 : Nat) : Int)), .slc 1 kn (k - kn)]) ∧ L = [none, none] := by
  have hw : IntKind.i64.wrap ((kn : Int) + 1) = ((kn + 1 : Nat) : Int) := by rw [wrap_i64 _ (by omega)]; rfl
  have htn : ((k : Int) - (kn : Int)).toNat = k - kn := by omega
  refine SCall.mk (fn := Try.f57) (by kernel_rfl) rfl (Nat.le_of_ble_eq_true (by kernel_rfl)) ?_
  refine Sem.go (k := 1000) ?_
  simp -dsimp (decide := true) (disch := first | omega | simp (decide := true) only [refpb0]) only [refpb16, ↓brun_b, envOf, reduceIte, Nat.reduceEqDiff, Nat.reduceAdd, Nat.reduceSub, Nat.reduceMul, Nat.reduceBEq, Nat.reduceLeDiff, Nat.reduceLT, Int.reduceToNat, rho]
  refine Sem.draw' (by kernel_rfl) (.one 0 (.one 1 (.one 2 (.one 3 (.one 4 (.one 5 (.one 6 (.one 7 (.one 8 (.one 9 (.one 10 (.one 11 (.one 12 (.one 13 (.one 14 (.one 15 .done)))))))))))))))) [] (by kernel_rfl) (fun G ff hG hf => ?_)
  simp (decide := true) only [refpb4, Nat.reduceAdd] at hG ⊢
  simp -dsimp (decide := true) (disch := first | omega | simp (decide := true) only [refpb0]) only [refpb16, ↓brun_b, envOf, reduceIte, Nat.reduceEqDiff, Nat.reduceAdd, Nat.reduceSub, Nat.reduceMul, Nat.reduceBEq, Nat.reduceLeDiff, Nat.reduceLT, Int.reduceToNat, rho, hG, hw, htn]
  refine And.intro (by omega) ?_
  refine hf _ (Sem.go (k := 1000) ?_)
  simp (decide := true) only [back_mk, backL_in, backL_row, backL_none, backL_nil, Nat.zero_add, Nat.reduceAdd]
  simp -dsimp (decide := true) (disch := first | omega | simp (decide := true) only [refpb0]) only [refpb16, ↓brun_b, envOf, reduceIte, Nat.reduceEqDiff, Nat.reduceAdd, Nat.reduceSub, Nat.reduceMul, Nat.reduceBEq, Nat.reduceLeDiff, Nat.reduceLT, Int.reduceToNat, rho]
  refine SQ.runL (rs := [.tmp 2, .tmp 3]) [0, 1] _ _ rfl (And.intro rfl rfl) (by decide) rfl rfl ?_ ?_
  · simp -dsimp (decide := true) (disch := first | omega | simp (decide := true) only [refpb0]) only [refpb17, ↓brun_b, envOf, reduceIte, Nat.reduceEqDiff, Nat.reduceAdd, Nat.reduceSub, Nat.reduceMul, Nat.reduceBEq, Nat.reduceLeDiff, Nat.reduceLT, Int.reduceToNat, rho, frz1, ↓reduceIte]
  · simp -dsimp (decide := true) (disch := first | omega | simp (decide := true) only [refpb0]) only [refpb17, ↓brun_b, envOf, reduceIte, Nat.reduceEqDiff, Nat.reduceAdd, Nat.reduceSub, Nat.reduceMul, Nat.reduceBEq, Nat.reduceLeDiff, Nat.reduceLT, Int.reduceToNat, rho, frz1, ↓reduceIte]
end Go.Proofs
namespace Go.Proofs
open Go Go.SL
set_option maxRecDepth 100000
def refpb19 :=
  (And.intro (And.intro refpc0 refpc1) (And.intro @RE.c_length (And.intro @fd_flat @zF.eq_1)))
def refpb20 :=
  (And.intro (And.intro (And.intro refpc2 (And.intro refpc1 refpc5)) (And.intro refpc3 (And.intro refpc4 refpc6))) (And.intro (And.intro refpc7 (And.intro refpc8 refpc9)) (And.intro @RE.c_length (And.intro @b151k2 @bs35_0))))
def refpb21 :=
  (And.intro (And.intro (And.intro (And.intro refpc2 refpc1) (And.intro refpc10 refpc5)) (And.intro (And.intro refpc3 refpc4) (And.intro refpc6 refpc7))) (And.intro (And.intro (And.intro refpc8 refpc9) (And.intro @FC.ent @RE.c_length)) (And.intro (And.intro @bwk_a @eq_self.{1}) (And.intro @forall_const.{1} (And.intro @implies_true.{0} @implies_true.{1})))))
theorem refData_calls (id pid : I16) (up op : Bool) (mi mn pi pn kn gt n : Int) (k : Nat) (ts : List (List UInt8)) (tx : List UInt8) (ht : tx.length ≤ 140737488355328) :
    SCall Try.prog 138 [.ptr 0 0 0, .v (.int .i64 n), bsl tx] [some (.row ⟨41, 1, false, 142, fun _ => RE.c ⟨id, .v (.bool up), .v (.bool op), .v (.int .i64 mi), .v (.int .i64 mn), .v (.int .i64 pi), .v (.int .i64 pn), pid, .slc 1 0 k, .v (.int .i64 kn), .v (.int .i64 gt)⟩⟩), some (.row ⟨1, k, false, 35, trow ts⟩)]
      fun r L => r = .ret (.agg (FC.c { zF with kind := .v (.int .i64 2), fi := .v (.int .i64 mi), fn := .v (.int .i64 mn), ti := .v (.int .i64 pi), tn := .v (.int .i64 pn), n := .v (.int .i64 n), tx := bsl tx })) ∧ L = [none, none] := by
  refine SCall.mk (fn := Try.f138) (by kernel_rfl) rfl (Nat.le_of_ble_eq_true (by kernel_rfl)) ?_
  refine Sem.go (k := 1000) ?_
  simp -dsimp (decide := true) (disch := first | omega | simp (decide := true) only [refpb19]) only [refpb3, ↓brun_b, envOf, reduceIte, Nat.reduceEqDiff, Nat.reduceAdd, Nat.reduceSub, Nat.reduceMul, Nat.reduceBEq, Nat.reduceLeDiff, Nat.reduceLT, Int.reduceToNat, rho]
  refine Sem.draw' (by kernel_rfl) (.one 0 (.one 1 (.one 2 (.one 3 (.one 4 (.one 5 (.one 6 (.one 7 (.one 8 (.one 10 (.alt 9 (.alt 11 (.one 12 (.alt 13 .done .non)) .non) .non))))))))))) [2] (by kernel_rfl) (fun G ff hG hf => ?_)
  simp (decide := true) only [refpb4, Nat.reduceAdd] at hG ⊢
  simp -dsimp (decide := true) (disch := first | omega | simp (decide := true) only [refpb19]) only [refpb20, ↓brun_b, envOf, reduceIte, Nat.reduceEqDiff, Nat.reduceAdd, Nat.reduceSub, Nat.reduceMul, Nat.reduceBEq, Nat.reduceLeDiff, Nat.reduceLT, Int.reduceToNat, rho, hG, sapp1_sl el5, ht, Nat.le_refl]
  refine hf _ (Sem.go (k := 1000) ?_)
  simp (decide := true) only [back_mk, backL_in, backL_row, backL_none, backL_nil, Nat.zero_add, Nat.reduceAdd]
  simp -dsimp (decide := true) (disch := first | omega | simp (decide := true) only [refpb19]) only [refpb5, ↓brun_b, envOf, reduceIte, Nat.reduceEqDiff, Nat.reduceAdd, Nat.reduceSub, Nat.reduceMul, Nat.reduceBEq, Nat.reduceLeDiff, Nat.reduceLT, Int.reduceToNat, rho]
  refine SQ.runL (rs := [.cell 6 151]) [0, 1] _ _ rfl (And.intro rfl rfl) (by decide) rfl rfl ?_ ?_
  · simp -dsimp (decide := true) (disch := first | omega | simp (decide := true) only [refpb19]) only [refpb6, ↓brun_b, envOf, reduceIte, Nat.reduceEqDiff, Nat.reduceAdd, Nat.reduceSub, Nat.reduceMul, Nat.reduceBEq, Nat.reduceLeDiff, Nat.reduceLT, Int.reduceToNat, rho, frz1, ↓reduceIte]
  · simp -dsimp (decide := true) (disch := first | omega | simp (decide := true) only [refpb19]) only [refpb21, ↓brun_b, envOf, reduceIte, Nat.reduceEqDiff, Nat.reduceAdd, Nat.reduceSub, Nat.reduceMul, Nat.reduceBEq, Nat.reduceLeDiff, Nat.reduceLT, Int.reduceToNat, rho, frz1, ↓reduceIte]
    exact Ent_row rfl rfl (brows_length _).symm (by omega) fun i r hr => app_row2 _ (flatR_brows _) [] i r hr
def refpb22 :=
  (And.intro (And.intro (And.intro refpc2 (And.intro refpc1 refpc5)) (And.intro (And.intro refpc3 refpc4) (And.intro refpc6 refpc7))) (And.intro (And.intro refpc8 (And.intro refpc9 @RE.c_length)) (And.intro (And.intro @brows_length @tab.a140) (And.intro @tab.s140 @tab.u140))))
def refpb23 :=
  (And.intro (And.intro (And.intro (And.intro refpc2 refpc1) (And.intro refpc5 refpc3)) (And.intro (And.intro refpc4 refpc6) (And.intro refpc7 (And.intro refpc8 refpc9)))) (And.intro (And.intro (And.intro @RE.c_length @bwk_a) (And.intro @eq_self.{1} @forall_const.{1})) (And.intro (And.intro @implies_true.{0} @implies_true.{1}) (And.intro @tab.a140 (And.intro @tab.s140 @tab.u140)))))
def refpb24 :=
  (And.intro (And.intro (And.intro refpc3 refpc4) (And.intro refpc6 refpc7)) (And.intro (And.intro refpc8 refpc9) (And.intro @tab.a140 (And.intro @tab.s140 @tab.u140))))
def refpb25 :=
  (And.intro (And.intro (And.intro refpc2 (And.intro refpc1 refpc5)) (And.intro refpc3 (And.intro refpc4 refpc6))) (And.intro (And.intro refpc7 (And.intro refpc8 refpc9)) (And.intro (And.intro @RE.c_length @tab.a140) (And.intro @tab.s140 @tab.u140))))
def refpb26 :=
  (And.intro (And.intro (And.intro refpc2 (And.intro refpc1 refpc10)) (And.intro (And.intro refpc5 refpc3) (And.intro refpc4 refpc6))) (And.intro (And.intro refpc7 (And.intro refpc8 refpc9)) (And.intro (And.intro @RE.c_length @tab.a140) (And.intro @tab.s140 @tab.u140))))
def refpb27 :=
  (And.intro (And.intro (And.intro (And.intro refpc2 refpc1) (And.intro refpc10 refpc5)) (And.intro (And.intro refpc3 refpc4) (And.intro refpc6 (And.intro refpc7 refpc8)))) (And.intro (And.intro (And.intro refpc9 @RE.c_length) (And.intro @bwk_a (And.intro @eq_self.{1} @forall_const.{1}))) (And.intro (And.intro @implies_true.{0} @implies_true.{1}) (And.intro @tab.a140 (And.intro @tab.s140 @tab.u140)))))
theorem refSendOpen_calls (id pid : I16) (up : Bool) (mi mn pi pn kn gt n : Int) (ts : List (List UInt8)) (tx : List UInt8) (ht : tx.length ≤ 4096) (h0 : ts.length < 4611686018427387904) (h1 : (ts.length + 1) * 24 ≤ 140737488355328) (hn : n = ((ts.length + 1 : Nat) : Int)) :
    SCall Try.prog 103 [.ptr 0 0 0, bsl tx] [some (.row ⟨41, 1, true, 142, fun _ => RE.c ⟨id, .v (.bool up), .v (.bool true), .v (.int .i64 mi), .v (.int .i64 mn), .v (.int .i64 pi), .v (.int .i64 pn), pid, .slc 1 0 ts.length, .v (.int .i64 kn), .v (.int .i64 gt)⟩⟩), some (.row ⟨1, ts.length, true, 35, trow ts⟩)]
      fun r L => r = .ret (.tup [.agg (FC.c { zF with kind := .v (.int .i64 2), fi := .v (.int .i64 mi), fn := .v (.int .i64 mn), ti := .v (.int .i64 pi), tn := .v (.int .i64 pn), n := .v (.int .i64 n), tx := bsl tx }), .v (.int .i64 0)]) ∧ L = [some (.row ⟨41, 1, true, 142, fun _ => RE.c ⟨id, .v (.bool up), .v (.bool true), .v (.int .i64 mi), .v (.int .i64 mn), .v (.int .i64 pi), .v (.int .i64 pn), pid, .slc 2 0 (ts.length + 1), .v (.int .i64 kn), .v (.int .i64 gt)⟩⟩), none, some (.row ⟨1, ts.length + 1, true, 35, trow (ts ++ [tx])⟩)] := by
  have h : decide ((tx.length : Int) > 4096) = false := decide_eq_false (by omega)
  have h' : decide ((4096 : Int) < (tx.length : Int)) = false := decide_eq_false (by omega)
  have hc := refSendE_calls id pid up true mi mn pi pn kn gt ts tx h0 h1 (by omega)
  have hd := refData_calls id pid up true mi mn pi pn kn gt n (ts.length + 1) (ts ++ [tx]) tx (by omega)
  rw [← hn] at hc
  refine SCall.mk (fn := Try.f103) (by kernel_rfl) rfl (Nat.le_of_ble_eq_true (by kernel_rfl)) ?_
  refine Sem.go (k := 1000) ?_
  simp -dsimp (decide := true) (disch := first | omega | simp (decide := true) only [refpb19]) only [refpb22, ↓brun_b, envOf, reduceIte, Nat.reduceEqDiff, Nat.reduceAdd, Nat.reduceSub, Nat.reduceMul, Nat.reduceBEq, Nat.reduceLeDiff, Nat.reduceLT, Int.reduceToNat, rho, h, h']
  refine SemOps.callw [0, 1] cal.f51 (hc) rfl rfl rfl (by simp -dsimp (decide := true) (disch := first | omega | simp (decide := true) only [refpb19]) only [refpb23, ↓brun_b, envOf, reduceIte, Nat.reduceEqDiff, Nat.reduceAdd, Nat.reduceSub, Nat.reduceMul, Nat.reduceBEq, Nat.reduceLeDiff, Nat.reduceLT, Int.reduceToNat, rho, frz1, ↓reduceIte]) rfl (by simp -dsimp (decide := true) (disch := first | omega | simp (decide := true) only [refpb19]) only [refpb23, ↓brun_b, envOf, reduceIte, Nat.reduceEqDiff, Nat.reduceAdd, Nat.reduceSub, Nat.reduceMul, Nat.reduceBEq, Nat.reduceLeDiff, Nat.reduceLT, Int.reduceToNat, rho, frz1, ↓reduceIte]) (by simp -dsimp (decide := true) (disch := first | omega | simp (decide := true) only [refpb19]) only [refpb24, ↓brun_b, envOf, reduceIte, Nat.reduceEqDiff, Nat.reduceAdd, Nat.reduceSub, Nat.reduceMul, Nat.reduceBEq, Nat.reduceLeDiff, Nat.reduceLT, Int.reduceToNat]) ?_
  refine SemOps.go (k := 1000) ?_
  simp -dsimp (decide := true) (disch := first | omega | simp (decide := true) only [refpb19]) only [refpb25, ↓brun_b, envOf, reduceIte, Nat.reduceEqDiff, Nat.reduceAdd, Nat.reduceSub, Nat.reduceMul, Nat.reduceBEq, Nat.reduceLeDiff, Nat.reduceLT, Int.reduceToNat, rho]
  refine SemOps.callw [0, 3] cal.f138 (hd) rfl rfl rfl (by simp -dsimp (decide := true) (disch := first | omega | simp (decide := true) only [refpb19]) only [refpb23, ↓brun_b, envOf, reduceIte, Nat.reduceEqDiff, Nat.reduceAdd, Nat.reduceSub, Nat.reduceMul, Nat.reduceBEq, Nat.reduceLeDiff, Nat.reduceLT, Int.reduceToNat, rho, frz1, ↓reduceIte]) rfl (by simp -dsimp (decide := true) (disch := first | omega | simp (decide := true) only [refpb19]) only [refpb23, ↓brun_b, envOf, reduceIte, Nat.reduceEqDiff, Nat.reduceAdd, Nat.reduceSub, Nat.reduceMul, Nat.reduceBEq, Nat.reduceLeDiff, Nat.reduceLT, Int.reduceToNat, rho, frz1, ↓reduceIte]) (by simp -dsimp (decide := true) (disch := first | omega | simp (decide := true) only [refpb19]) only [refpb24, ↓brun_b, envOf, reduceIte, Nat.reduceEqDiff, Nat.reduceAdd, Nat.reduceSub, Nat.reduceMul, Nat.reduceBEq, Nat.reduceLeDiff, Nat.reduceLT, Int.reduceToNat]) ?_
  refine SemOps.go (k := 1000) ?_
  simp -dsimp (decide := true) (disch := first | omega | simp (decide := true) only [refpb19]) only [refpb26, ↓brun_b, envOf, reduceIte, Nat.reduceEqDiff, Nat.reduceAdd, Nat.reduceSub, Nat.reduceMul, Nat.reduceBEq, Nat.reduceLeDiff, Nat.reduceLT, Int.reduceToNat, rho]
  refine SQ.runL (rs := [.cell 4 151, .tmp 5]) [0, 1, 3] _ _ rfl (And.intro rfl rfl) (by decide) rfl rfl ?_ ?_
  · simp -dsimp (decide := true) (disch := first | omega | simp (decide := true) only [refpb19]) only [refpb23, ↓brun_b, envOf, reduceIte, Nat.reduceEqDiff, Nat.reduceAdd, Nat.reduceSub, Nat.reduceMul, Nat.reduceBEq, Nat.reduceLeDiff, Nat.reduceLT, Int.reduceToNat, rho, frz1, ↓reduceIte]
  · simp -dsimp (decide := true) (disch := first | omega | simp (decide := true) only [refpb19]) only [refpb27, ↓brun_b, envOf, reduceIte, Nat.reduceEqDiff, Nat.reduceAdd, Nat.reduceSub, Nat.reduceMul, Nat.reduceBEq, Nat.reduceLeDiff, Nat.reduceLT, Int.reduceToNat, rho, frz1, ↓reduceIte]
end Go.Proofs
namespace Go.Proofs
open Go Go.SL
set_option maxRecDepth 100000
theorem refTickDown_calls (id pid : I16) (op : Bool) (mi mn pi pn kn gt : Int) (k : Nat) (ts : List (List UInt8)) :
    SCall Try.prog 101 [.ptr 0 0 0] [some (.row ⟨41, 1, false, 142, fun _ => RE.c ⟨id, .v (.bool false), .v (.bool op), .v (.int .i64 mi), .v (.int .i64 mn), .v (.int .i64 pi), .v (.int .i64 pn), pid, .slc 1 0 k, .v (.int .i64 kn), .v (.int .i64 gt)⟩⟩), some (.row ⟨1, k, false, 35, trow ts⟩)]
      fun r L => r = .ret (.v (.slice none 0 0)) ∧ L = [none, none] := by
  refine SCall.mk (fn := Try.f101) (by kernel_rfl) rfl (Nat.le_of_ble_eq_true (by kernel_rfl)) ?_
  refine Sem.go (k := 1000) ?_
  simp -dsimp (decide := true) (disch := first | omega | simp (decide := true) only [refpb19]) only [refpb8, ↓brun_b, envOf, reduceIte, Nat.reduceEqDiff, Nat.reduceAdd, Nat.reduceSub, Nat.reduceMul, Nat.reduceBEq, Nat.reduceLeDiff, Nat.reduceLT, Int.reduceToNat, rho]
  refine SQ.runL (rs := [.tmp 2]) [0, 1] _ _ rfl (And.intro rfl rfl) (by decide) rfl rfl ?_ ?_
  · simp -dsimp (decide := true) (disch := first | omega | simp (decide := true) only [refpb19]) only [refpb10, ↓brun_b, envOf, reduceIte, Nat.reduceEqDiff, Nat.reduceAdd, Nat.reduceSub, Nat.reduceMul, Nat.reduceBEq, Nat.reduceLeDiff, Nat.reduceLT, Int.reduceToNat, rho, frz1, ↓reduceIte]
  · simp -dsimp (decide := true) (disch := first | omega | simp (decide := true) only [refpb19]) only [refpb10, ↓brun_b, envOf, reduceIte, Nat.reduceEqDiff, Nat.reduceAdd, Nat.reduceSub, Nat.reduceMul, Nat.reduceBEq, Nat.reduceLeDiff, Nat.reduceLT, Int.reduceToNat, rho, frz1, ↓reduceIte]
theorem refTickHi_calls (id pid : I16) (mi mn pi pn kn gt : Int) (k : Nat) (ts : List (List UInt8)) :
    SCall Try.prog 101 [.ptr 0 0 0] [some (.row ⟨41, 1, false, 142, fun _ => RE.c ⟨id, .v (.bool true), .v (.bool false), .v (.int .i64 mi), .v (.int .i64 mn), .v (.int .i64 pi), .v (.int .i64 pn), pid, .slc 1 0 k, .v (.int .i64 kn), .v (.int .i64 gt)⟩⟩), some (.row ⟨1, k, false, 35, trow ts⟩)]
      fun r L => r = .ret (.slc 2 0 1) ∧ L = [none, none, some (.row ⟨95, 1, true, 151, fun _ => FC.c { zF with kind := .v (.int .i64 1), fi := .v (.int .i64 mi), fn := .v (.int .i64 mn), ti := .v (.int .i64 pi), tn := .v (.int .i64 pn), a := id }⟩)] := by
  refine SCall.mk (fn := Try.f101) (by kernel_rfl) rfl (Nat.le_of_ble_eq_true (by kernel_rfl)) ?_
  refine Sem.go (k := 1000) ?_
  simp -dsimp (decide := true) (disch := first | omega | simp (decide := true) only [refpb19]) only [refpb8, ↓brun_b, envOf, reduceIte, Nat.reduceEqDiff, Nat.reduceAdd, Nat.reduceSub, Nat.reduceMul, Nat.reduceBEq, Nat.reduceLeDiff, Nat.reduceLT, Int.reduceToNat, rho]
  refine SemOps.callw [0, 1] cal.f137 (greeting_calls id pid true false mi mn pi pn kn gt k (trow ts)) rfl rfl rfl (by simp -dsimp (decide := true) (disch := first | omega | simp (decide := true) only [refpb19]) only [refpb10, ↓brun_b, envOf, reduceIte, Nat.reduceEqDiff, Nat.reduceAdd, Nat.reduceSub, Nat.reduceMul, Nat.reduceBEq, Nat.reduceLeDiff, Nat.reduceLT, Int.reduceToNat, rho, frz1, ↓reduceIte]) rfl (by simp -dsimp (decide := true) (disch := first | omega | simp (decide := true) only [refpb19]) only [refpb10, ↓brun_b, envOf, reduceIte, Nat.reduceEqDiff, Nat.reduceAdd, Nat.reduceSub, Nat.reduceMul, Nat.reduceBEq, Nat.reduceLeDiff, Nat.reduceLT, Int.reduceToNat, rho, frz1, ↓reduceIte]) (by simp -dsimp (decide := true) (disch := first | omega | simp (decide := true) only [refpb19]) only [refpb11, ↓brun_b, envOf, reduceIte, Nat.reduceEqDiff, Nat.reduceAdd, Nat.reduceSub, Nat.reduceMul, Nat.reduceBEq, Nat.reduceLeDiff, Nat.reduceLT, Int.reduceToNat]) ?_
  refine SemOps.go (k := 1000) ?_
  simp -dsimp (decide := true) (disch := first | omega | simp (decide := true) only [refpb19]) only [refpb12, ↓brun_b, envOf, reduceIte, Nat.reduceEqDiff, Nat.reduceAdd, Nat.reduceSub, Nat.reduceMul, Nat.reduceBEq, Nat.reduceLeDiff, Nat.reduceLT, Int.reduceToNat, rho]
  refine SQ.runL (rs := [.tmp 2]) [0, 1, 2] _ _ rfl (And.intro rfl rfl) (by decide) rfl rfl ?_ ?_
  · simp -dsimp (decide := true) (disch := first | omega | simp (decide := true) only [refpb19]) only [refpb10, ↓brun_b, envOf, reduceIte, Nat.reduceEqDiff, Nat.reduceAdd, Nat.reduceSub, Nat.reduceMul, Nat.reduceBEq, Nat.reduceLeDiff, Nat.reduceLT, Int.reduceToNat, rho, frz1, ↓reduceIte]
    exact fun e he => one124 _ e he (fh_flat _ _ _ _ _)
  · simp -dsimp (decide := true) (disch := first | omega | simp (decide := true) only [refpb19]) only [refpb10, ↓brun_b, envOf, reduceIte, Nat.reduceEqDiff, Nat.reduceAdd, Nat.reduceSub, Nat.reduceMul, Nat.reduceBEq, Nat.reduceLeDiff, Nat.reduceLT, Int.reduceToNat, rho, frz1, ↓reduceIte]
theorem refSendDown_calls (id pid : I16) (up : Bool) (mi mn pi pn kn gt : Int) (k : Nat) (ts : List (List UInt8)) (tx : List UInt8) :
    SCall Try.prog 103 [.ptr 0 0 0, bsl tx] [some (.row ⟨41, 1, false, 142, fun _ => RE.c ⟨id, .v (.bool up), .v (.bool false), .v (.int .i64 mi), .v (.int .i64 mn), .v (.int .i64 pi), .v (.int .i64 pn), pid, .slc 1 0 k, .v (.int .i64 kn), .v (.int .i64 gt)⟩⟩), some (.row ⟨1, k, false, 35, trow ts⟩)]
      fun r L => r = .ret (.tup [.agg zF.c, .v (.int .i64 10)]) ∧ L = [none, none] := by
  refine SCall.mk (fn := Try.f103) (by kernel_rfl) rfl (Nat.le_of_ble_eq_true (by kernel_rfl)) ?_
  refine Sem.go (k := 1000) ?_
  simp -dsimp (decide := true) (disch := first | omega | simp (decide := true) only [refpb19]) only [refpb25, ↓brun_b, envOf, reduceIte, Nat.reduceEqDiff, Nat.reduceAdd, Nat.reduceSub, Nat.reduceMul, Nat.reduceBEq, Nat.reduceLeDiff, Nat.reduceLT, Int.reduceToNat, rho]
  refine SQ.runL (rs := [.cell 4 151, .tmp 5]) [0, 1] _ _ rfl (And.intro rfl rfl) (by decide) rfl rfl ?_ ?_
  · simp -dsimp (decide := true) (disch := first | omega | simp (decide := true) only [refpb19]) only [refpb23, ↓brun_b, envOf, reduceIte, Nat.reduceEqDiff, Nat.reduceAdd, Nat.reduceSub, Nat.reduceMul, Nat.reduceBEq, Nat.reduceLeDiff, Nat.reduceLT, Int.reduceToNat, rho, frz1, ↓reduceIte]
  · simp -dsimp (decide := true) (disch := first | omega | simp (decide := true) only [refpb19]) only [refpb23, ↓brun_b, envOf, reduceIte, Nat.reduceEqDiff, Nat.reduceAdd, Nat.reduceSub, Nat.reduceMul, Nat.reduceBEq, Nat.reduceLeDiff, Nat.reduceLT, Int.reduceToNat, rho, frz1, ↓reduceIte]
theorem refSendLong_calls (id pid : I16) (up : Bool) (mi mn pi pn kn gt : Int) (k : Nat) (ts : List (List UInt8)) (tx : List UInt8) (ht : 4096 < tx.length) :
    SCall Try.prog 103 [.ptr 0 0 0, bsl tx] [some (.row ⟨41, 1, false, 142, fun _ => RE.c ⟨id, .v (.bool up), .v (.bool true), .v (.int .i64 mi), .v (.int .i64 mn), .v (.int .i64 pi), .v (.int .i64 pn), pid, .slc 1 0 k, .v (.int .i64 kn), .v (.int .i64 gt)⟩⟩), some (.row ⟨1, k, false, 35, trow ts⟩)]
      fun r L => r = .ret (.tup [.agg zF.c, .v (.int .i64 4)]) ∧ L = [none, none] := by
  have h : decide ((tx.length : Int) > 4096) = true := decide_eq_true (by omega)
  have h' : decide ((4096 : Int) < (tx.length : Int)) = true := decide_eq_true (by omega)
  refine SCall.mk (fn := Try.f103) (by kernel_rfl) rfl (Nat.le_of_ble_eq_true (by kernel_rfl)) ?_
  refine Sem.go (k := 1000) ?_
  simp -dsimp (decide := true) (disch := first | omega | simp (decide := true) only [refpb19]) only [refpb22, ↓brun_b, envOf, reduceIte, Nat.reduceEqDiff, Nat.reduceAdd, Nat.reduceSub, Nat.reduceMul, Nat.reduceBEq, Nat.reduceLeDiff, Nat.reduceLT, Int.reduceToNat, rho, h, h']
  refine SQ.runL (rs := [.cell 4 151, .tmp 5]) [0, 1] _ _ rfl (And.intro rfl rfl) (by decide) rfl rfl ?_ ?_
  · simp -dsimp (decide := true) (disch := first | omega | simp (decide := true) only [refpb19]) only [refpb23, ↓brun_b, envOf, reduceIte, Nat.reduceEqDiff, Nat.reduceAdd, Nat.reduceSub, Nat.reduceMul, Nat.reduceBEq, Nat.reduceLeDiff, Nat.reduceLT, Int.reduceToNat, rho, frz1, ↓reduceIte]
  · simp -dsimp (decide := true) (disch := first | omega | simp (decide := true) only [refpb19]) only [refpb23, ↓brun_b, envOf, reduceIte, Nat.reduceEqDiff, Nat.reduceAdd, Nat.reduceSub, Nat.reduceMul, Nat.reduceBEq, Nat.reduceLeDiff, Nat.reduceLT, Int.reduceToNat, rho, frz1, ↓reduceIte]
end Go.Proofs
namespace Go.Proofs
open Go Go.SL
set_option maxRecDepth 100000
def refpb28 :=
  (And.intro (And.intro refpc0 (And.intro refpc1 @RE.c_length)) (And.intro @dfam_flat (And.intro @fd_flat @zF.eq_1)))
theorem refTickOpen_calls (id pid : I16) (mi mn pi pn gt : Int) (kn : Nat) (ts : List (List UInt8)) (hk0 : kn ≤ ts.length) (h0 : kn + ts.length + 1 < 4611686018427387904) (h1 : ts.length * 264 ≤ 140737488355328) (h2 : ∀ t ∈ ts, t.length ≤ 140737488355328) :
    SCall Try.prog 101 [.ptr 0 0 0] [some (.row ⟨41, 1, false, 142, fun _ => RE.c ⟨id, .v (.bool true), .v (.bool true), .v (.int .i64 mi), .v (.int .i64 mn), .v (.int .i64 pi), .v (.int .i64 pn), pid, .slc 1 0 ts.length, .v (.int .i64 (kn : Int)), .v (.int .i64 gt)⟩⟩), some (.row ⟨1, ts.length, false, 35, trow ts⟩)]
      fun r L => r = .ret (.slc 2 0 (ts.length - kn)) ∧ L = [none, none, some (.row ⟨95, ts.length - kn, true, 151, dfam mi mn pi pn (kn + 1) (ts.drop kn)⟩)] := by
  have hc := refWaits_callsE id pid true true mi mn pi pn kn gt ts.length (trow ts) hk0 (by omega)
  refine SCall.mk (fn := Try.f101) (by kernel_rfl) rfl (Nat.le_of_ble_eq_true (by kernel_rfl)) ?_
  refine Sem.go (k := 1000) ?_
  simp -dsimp (decide := true) (disch := first | omega | simp (decide := true) only [refpb28]) only [refpb8, ↓brun_b, envOf, reduceIte, Nat.reduceEqDiff, Nat.reduceAdd, Nat.reduceSub, Nat.reduceMul, Nat.reduceBEq, Nat.reduceLeDiff, Nat.reduceLT, Int.reduceToNat, rho]
  refine SemOps.callw [0, 1] cal.f57 (hc) rfl rfl rfl (by simp -dsimp (decide := true) (disch := first | omega | simp (decide := true) only [refpb28]) only [refpb10, ↓brun_b, envOf, reduceIte, Nat.reduceEqDiff, Nat.reduceAdd, Nat.reduceSub, Nat.reduceMul, Nat.reduceBEq, Nat.reduceLeDiff, Nat.reduceLT, Int.reduceToNat, rho, frz1, ↓reduceIte]) rfl (by simp -dsimp (decide := true) (disch := first | omega | simp (decide := true) only [refpb28]) only [refpb10, ↓brun_b, envOf, reduceIte, Nat.reduceEqDiff, Nat.reduceAdd, Nat.reduceSub, Nat.reduceMul, Nat.reduceBEq, Nat.reduceLeDiff, Nat.reduceLT, Int.reduceToNat, rho, frz1, ↓reduceIte]) (by simp -dsimp (decide := true) (disch := first | omega | simp (decide := true) only [refpb28]) only [refpb11, ↓brun_b, envOf, reduceIte, Nat.reduceEqDiff, Nat.reduceAdd, Nat.reduceSub, Nat.reduceMul, Nat.reduceBEq, Nat.reduceLeDiff, Nat.reduceLT, Int.reduceToNat]) ?_
  refine SemOps.go (k := 1000) ?_
  simp -dsimp (decide := true) (disch := first | omega | simp (decide := true) only [refpb28]) only [refpb8, ↓brun_b, envOf, reduceIte, Nat.reduceEqDiff, Nat.reduceAdd, Nat.reduceSub, Nat.reduceMul, Nat.reduceBEq, Nat.reduceLeDiff, Nat.reduceLT, Int.reduceToNat, rho]
  refine Sem.ghost 3 95 151 rfl ?_
  refine Sem.loop (ι := {k : Nat // k ≤ ts.length - kn}) (fun k => ⟨46, 2, [(0, .ptr 0 0 0), (3, .slc 2 0 k.1), (4, .v (.int .i64 ((kn + 1 : Nat) : Int))), (5, .slc 1 kn (ts.length - kn)), (6, .v (.int .i64 (k.1 : Int)))], [some (.row ⟨41, 1, false, 142, fun _ => RE.c ⟨id, .v (.bool true), .v (.bool true), .v (.int .i64 mi), .v (.int .i64 mn), .v (.int .i64 pi), .v (.int .i64 pn), pid, .slc 1 0 ts.length, .v (.int .i64 (kn : Int)), .v (.int .i64 gt)⟩⟩), some (.row ⟨1, ts.length, false, 35, trow ts⟩), some (.row ⟨95, k.1, true, 151, dfam mi mn pi pn (kn + 1) (ts.drop kn)⟩)]⟩) (fun k => ts.length - kn - k.1) ⟨0, by omega⟩ [0, 1, 2] ?_ ?_
  · (refine Wk.ofC ?_; simp -dsimp (decide := true) (disch := first | omega | simp (decide := true) only [refpb28]) only [refpb10, ↓brun_b, envOf, reduceIte, Nat.reduceEqDiff, Nat.reduceAdd, Nat.reduceSub, Nat.reduceMul, Nat.reduceBEq, Nat.reduceLeDiff, Nat.reduceLT, Int.reduceToNat, rho, frz1, ↓reduceIte])
  · rintro ⟨k, hk⟩
    refine Sem.go (k := 1000) ?_
    simp -dsimp (decide := true) (disch := first | omega | simp (decide := true) only [refpb28]) only [refpb8, ↓brun_b, envOf, reduceIte, Nat.reduceEqDiff, Nat.reduceAdd, Nat.reduceSub, Nat.reduceMul, Nat.reduceBEq, Nat.reduceLeDiff, Nat.reduceLT, Int.reduceToNat, rho]
    refine SCond.split (fun h3 => ?_) (fun h3 => ?_)
    · simp only [decide_eq_true_eq] at h3
      have hk' : k < ts.length - kn := by omega
      have hw1 : IntKind.i64.wrap (((kn + 1 : Nat) : Int) + (k : Int)) = ((kn + 1 + k : Nat) : Int) := by rw [wrap_i64 _ (by omega)]; rfl
      have hw2 : IntKind.i64.wrap ((k : Int) + 1) = ((k + 1 : Nat) : Int) := by rw [wrap_i64 _ (by omega)]; rfl
      have hg : ts.getD (kn + k) [] = (ts.drop kn).getD k [] := by simp [List.getD_eq_getElem?_getD, List.getElem?_drop]
      have ht : ((ts.drop kn).getD k []).length ≤ 140737488355328 := by
        rw [← hg]
        exact h2 _ (by rw [List.getD_eq_getElem?_getD, List.getElem?_eq_getElem (by omega : kn + k < ts.length), Option.getD_some]; exact List.getElem_mem _)
      have hd := refData_calls id pid true true mi mn pi pn (kn : Int) gt ((kn + 1 + k : Nat) : Int) ts.length ts ((ts.drop kn).getD k []) ht
      simp -dsimp (decide := true) (disch := first | omega | simp (decide := true) only [refpb28]) only [refpb8, ↓brun_b, envOf, reduceIte, Nat.reduceEqDiff, Nat.reduceAdd, Nat.reduceSub, Nat.reduceMul, Nat.reduceBEq, Nat.reduceLeDiff, Nat.reduceLT, Int.reduceToNat, rho, hw1, hg]
      refine And.intro (by omega) (And.intro (by omega) ?_)
      refine SemOps.callw [0, 1] cal.f138 (hd) rfl rfl rfl (by simp -dsimp (decide := true) (disch := first | omega | simp (decide := true) only [refpb28]) only [refpb10, ↓brun_b, envOf, reduceIte, Nat.reduceEqDiff, Nat.reduceAdd, Nat.reduceSub, Nat.reduceMul, Nat.reduceBEq, Nat.reduceLeDiff, Nat.reduceLT, Int.reduceToNat, rho, frz1, ↓reduceIte]) rfl (by simp -dsimp (decide := true) (disch := first | omega | simp (decide := true) only [refpb28]) only [refpb10, ↓brun_b, envOf, reduceIte, Nat.reduceEqDiff, Nat.reduceAdd, Nat.reduceSub, Nat.reduceMul, Nat.reduceBEq, Nat.reduceLeDiff, Nat.reduceLT, Int.reduceToNat, rho, frz1, ↓reduceIte]) (by simp -dsimp (decide := true) (disch := first | omega | simp (decide := true) only [refpb28]) only [refpb11, ↓brun_b, envOf, reduceIte, Nat.reduceEqDiff, Nat.reduceAdd, Nat.reduceSub, Nat.reduceMul, Nat.reduceBEq, Nat.reduceLeDiff, Nat.reduceLT, Int.reduceToNat]) ?_
      refine SemOps.go (k := 1000) ?_
      simp -dsimp (decide := true) (disch := first | omega | simp (decide := true) only [refpb28]) only [refpb12, ↓brun_b, envOf, reduceIte, Nat.reduceEqDiff, Nat.reduceAdd, Nat.reduceSub, Nat.reduceMul, Nat.reduceBEq, Nat.reduceLeDiff, Nat.reduceLT, Int.reduceToNat, rho, sapp1_sl el151, Nat.le_refl, hw2]
      refine And.intro (by omega) ?_
      refine ⟨⟨k + 1, by omega⟩, [0, 1, 4], ?_, by show ts.length - kn - (k + 1) < ts.length - kn - k; omega⟩
      (refine Wk.ofC ?_; simp -dsimp (decide := true) (disch := first | omega | simp (decide := true) only [refpb28]) only [refpb10, ↓brun_b, envOf, reduceIte, Nat.reduceEqDiff, Nat.reduceAdd, Nat.reduceSub, Nat.reduceMul, Nat.reduceBEq, Nat.reduceLeDiff, Nat.reduceLT, Int.reduceToNat, rho, frz1, ↓reduceIte])
      exact fun e he => app_dfam mi mn pi pn (kn + 1) (ts.drop kn) k e he
    · have hk2 : k = ts.length - kn := by
        simp only [decide_eq_false_iff_not] at h3
        omega
      subst hk2
      simp -dsimp (decide := true) (disch := first | omega | simp (decide := true) only [refpb28]) only [refpb8, ↓brun_b, envOf, reduceIte, Nat.reduceEqDiff, Nat.reduceAdd, Nat.reduceSub, Nat.reduceMul, Nat.reduceBEq, Nat.reduceLeDiff, Nat.reduceLT, Int.reduceToNat, rho]
      refine SQ.runL (rs := [.tmp 2]) [0, 1, 2] _ _ rfl (And.intro rfl rfl) (by decide) rfl rfl ?_ ?_
      · simp -dsimp (decide := true) (disch := first | omega | simp (decide := true) only [refpb28]) only [refpb10, ↓brun_b, envOf, reduceIte, Nat.reduceEqDiff, Nat.reduceAdd, Nat.reduceSub, Nat.reduceMul, Nat.reduceBEq, Nat.reduceLeDiff, Nat.reduceLT, Int.reduceToNat, rho, frz1, ↓reduceIte]
      · simp -dsimp (decide := true) (disch := first | omega | simp (decide := true) only [refpb28]) only [refpb10, ↓brun_b, envOf, reduceIte, Nat.reduceEqDiff, Nat.reduceAdd, Nat.reduceSub, Nat.reduceMul, Nat.reduceBEq, Nat.reduceLeDiff, Nat.reduceLT, Int.reduceToNat, rho, frz1, ↓reduceIte]
end Go.Proofs
namespace Go.Proofs
open Go Go.SL
set_option maxRecDepth 100000
theorem sp_s (g : Bool) (x : SV) (l : List SV) (k n : Nat) : spart g (x :: l) (k + 1) n = spart g l k n := by cases g <;> simp [spart, cellAt_succ]
def refpc11 :=
  (And.intro (And.intro @tab.a153 (And.intro @tab.f153x0 @tab.f153x1)) (And.intro (And.intro @tab.f153x2 @tab.f153x3) (And.intro @tab.s153 @tab.u153)))
def refpb29 :=
  (And.intro (And.intro (And.intro refpc2 refpc1) (And.intro refpc3 refpc4)) (And.intro (And.intro refpc6 refpc7) (And.intro refpc11 (And.intro refpc8 refpc9))))
def refpb30 :=
  (And.intro (And.intro (And.intro (And.intro refpc2 refpc1) (And.intro refpc5 refpc3)) (And.intro (And.intro refpc4 refpc6) (And.intro refpc7 refpc11))) (And.intro (And.intro (And.intro refpc8 refpc9) (And.intro @RE.c_length @bwk_a)) (And.intro (And.intro @eq_self.{1} @forall_const.{1}) (And.intro @implies_true.{0} @implies_true.{1}))))
theorem fit_own (F : Frm) (kd a b : Int) (t : List UInt8) (hk : kd = 4) (id pid : I16) (up op : Bool) (mi mn pi pn kn gt : Int) (k : Nat) (ts : List (List UInt8)) :
    SCall Try.prog 105 [.agg (.v (.int .i64 kd) :: .v (.int .i64 a) :: .v (.int .i64 b) :: bsl t :: F.fc.c), .ptr 0 0 0] [some (.row ⟨41, 1, false, 142, fun _ => RE.c ⟨id, .v (.bool up), .v (.bool op), .v (.int .i64 mi), .v (.int .i64 mn), .v (.int .i64 pi), .v (.int .i64 pn), pid, .slc 1 0 k, .v (.int .i64 kn), .v (.int .i64 gt)⟩⟩), some (.row ⟨1, k, false, 35, trow ts⟩)]
      fun r L => r = .ret (.agg F.fc.c) ∧ L = [none, none] := by
  subst hk
  have h1 : F.fc.c.length = 95 := FC.c_length _
  have h2 := frm_one F
  have h3 := Frm.flat F
  have h4 : (SV.v (.int .i64 4) :: .v (.int .i64 a) :: .v (.int .i64 b) :: bsl t :: F.fc.c).length = 99 := by simp [h1]
  have h7 : (SV.v (.int .i64 4) :: .v (.int .i64 a) :: .v (.int .i64 b) :: bsl t :: F.fc.c).all SV.one = true := by simp [h2, one_v, oneCell_int, one_rsl]
  have h6 := fun x y z w => sp4 x y z w F.fc.c h1
  have h8 : spart true F.fc.c 0 95 = .agg F.fc.c := by simp [spart, List.take_of_length_le, h1]
  refine SCall.mk (fn := Try.f105) (by kernel_rfl) rfl (Nat.le_of_ble_eq_true (by kernel_rfl)) ?_
  refine Sem.go (k := 1000) ?_
  simp -dsimp (decide := true) (disch := first | omega | simp (decide := true) only [refpb19]) only [refpb29, ↓brun_b, envOf, reduceIte, Nat.reduceEqDiff, Nat.reduceAdd, Nat.reduceSub, Nat.reduceMul, Nat.reduceBEq, Nat.reduceLeDiff, Nat.reduceLT, Int.reduceToNat, rho, h1, h2, h4, h7, h6, h8]
  refine SQ.runL (rs := [.cell 4 151]) [0, 1] _ _ rfl (And.intro rfl rfl) (by decide) rfl rfl ?_ ?_
  · simp -dsimp (decide := true) (disch := first | omega | simp (decide := true) only [refpb19]) only [refpb30, ↓brun_b, envOf, reduceIte, Nat.reduceEqDiff, Nat.reduceAdd, Nat.reduceSub, Nat.reduceMul, Nat.reduceBEq, Nat.reduceLeDiff, Nat.reduceLT, Int.reduceToNat, rho, frz1, ↓reduceIte]
  · simp -dsimp (decide := true) (disch := first | omega | simp (decide := true) only [refpb19]) only [refpb30, ↓brun_b, envOf, reduceIte, Nat.reduceEqDiff, Nat.reduceAdd, Nat.reduceSub, Nat.reduceMul, Nat.reduceBEq, Nat.reduceLeDiff, Nat.reduceLT, Int.reduceToNat, rho, h8, frz1, ↓reduceIte]
def refpb31 :=
  (And.intro (And.intro (And.intro refpc2 (And.intro refpc1 refpc5)) (And.intro refpc3 (And.intro refpc4 refpc6))) (And.intro (And.intro refpc7 (And.intro refpc11 refpc8)) (And.intro refpc9 (And.intro @RE.c_length @sp_s))))
def refpb32 :=
  (And.intro (And.intro (And.intro refpc2 refpc1) (And.intro refpc5 (And.intro refpc3 refpc4))) (And.intro (And.intro refpc6 (And.intro refpc7 refpc11)) (And.intro refpc8 (And.intro refpc9 @RE.c_length))))
def refpb33 :=
  (And.intro (And.intro (And.intro (And.intro refpc2 refpc1) (And.intro refpc10 refpc5)) (And.intro (And.intro refpc3 refpc4) (And.intro refpc6 (And.intro refpc7 refpc11)))) (And.intro (And.intro (And.intro refpc8 refpc9) (And.intro @FC.ent (And.intro @RE.c_length @bwk_a))) (And.intro (And.intro @eq_self.{1} @forall_const.{1}) (And.intro @implies_true.{0} (And.intro @implies_true.{1} @zF.eq_1)))))
theorem fit_else (F : Frm) (kd a b : Int) (t : List UInt8) (hk : decide (kd = 4) = false) (hk2 : decide (kd = 5) = false) (id pid : I16) (up op : Bool) (mi mn pi pn kn gt : Int) (k : Nat) (ts : List (List UInt8)) :
    SCall Try.prog 105 [.agg (.v (.int .i64 kd) :: .v (.int .i64 a) :: .v (.int .i64 b) :: bsl t :: F.fc.c), .ptr 0 0 0] [some (.row ⟨41, 1, false, 142, fun _ => RE.c ⟨id, .v (.bool up), .v (.bool op), .v (.int .i64 mi), .v (.int .i64 mn), .v (.int .i64 pi), .v (.int .i64 pn), pid, .slc 1 0 k, .v (.int .i64 kn), .v (.int .i64 gt)⟩⟩), some (.row ⟨1, k, false, 35, trow ts⟩)]
      fun r L => r = .ret (.agg (hF F.fi F.fn mi mn F.a).fc.c) ∧ L = [none, none] := by
  have h1 : F.fc.c.length = 95 := FC.c_length _
  have h2 := frm_one F
  have h3 := Frm.flat F
  have h4 : (SV.v (.int .i64 kd) :: .v (.int .i64 a) :: .v (.int .i64 b) :: bsl t :: F.fc.c).length = 99 := by simp [h1]
  have h7 : (SV.v (.int .i64 kd) :: .v (.int .i64 a) :: .v (.int .i64 b) :: bsl t :: F.fc.c).all SV.one = true := by simp [h2, one_v, oneCell_int, one_rsl]
  have e1 : spart true F.fc.c 52 2 = .agg [.v (.int .i64 F.fi), .v (.int .i64 F.fn)] := FC.part_from _
  have e2 : spart true F.fc.c 19 16 = .agg F.a.c := FC.part_a _
  rw [hF_c]
  refine SCall.mk (fn := Try.f105) (by kernel_rfl) rfl (Nat.le_of_ble_eq_true (by kernel_rfl)) ?_
  refine Sem.go (k := 1000) ?_
  simp -dsimp (decide := true) (disch := first | omega | simp (decide := true) only [refpb19]) only [refpb29, ↓brun_b, envOf, reduceIte, Nat.reduceEqDiff, Nat.reduceAdd, Nat.reduceSub, Nat.reduceMul, Nat.reduceBEq, Nat.reduceLeDiff, Nat.reduceLT, Int.reduceToNat, rho, h1, h2, h4, h7, hk, hk2]
  refine Sem.draw' (by kernel_rfl) (.one 0 (.one 1 (.one 2 (.one 3 (.one 4 (.one 5 (.one 6 (.one 7 (.one 8 (.one 9 (.one 10 (.alt 11 .done .non)))))))))))) [3] (by kernel_rfl) (fun G ff hG hf => ?_)
  simp (decide := true) only [refpb4, Nat.reduceAdd] at hG ⊢
  simp -dsimp (decide := true) (disch := first | omega | simp (decide := true) only [refpb19]) only [refpb31, ↓brun_b, envOf, reduceIte, Nat.reduceEqDiff, Nat.reduceAdd, Nat.reduceSub, Nat.reduceMul, Nat.reduceBEq, Nat.reduceLeDiff, Nat.reduceLT, Int.reduceToNat, rho, hG, e1, e2]
  refine hf _ (Sem.go (k := 1000) ?_)
  simp (decide := true) only [back_mk, backL_in, backL_row, backL_none, backL_nil, Nat.zero_add, Nat.reduceAdd]
  simp -dsimp (decide := true) (disch := first | omega | simp (decide := true) only [refpb19]) only [refpb32, ↓brun_b, envOf, reduceIte, Nat.reduceEqDiff, Nat.reduceAdd, Nat.reduceSub, Nat.reduceMul, Nat.reduceBEq, Nat.reduceLeDiff, Nat.reduceLT, Int.reduceToNat, rho]
  refine SQ.runL (rs := [.cell 4 151]) [0, 1] _ _ rfl (And.intro rfl rfl) (by decide) rfl rfl ?_ ?_
  · simp -dsimp (decide := true) (disch := first | omega | simp (decide := true) only [refpb19]) only [refpb30, ↓brun_b, envOf, reduceIte, Nat.reduceEqDiff, Nat.reduceAdd, Nat.reduceSub, Nat.reduceMul, Nat.reduceBEq, Nat.reduceLeDiff, Nat.reduceLT, Int.reduceToNat, rho, frz1, ↓reduceIte]
  · simp -dsimp (decide := true) (disch := first | omega | simp (decide := true) only [refpb19]) only [refpb33, ↓brun_b, envOf, reduceIte, Nat.reduceEqDiff, Nat.reduceAdd, Nat.reduceSub, Nat.reduceMul, Nat.reduceBEq, Nat.reduceLeDiff, Nat.reduceLT, Int.reduceToNat, rho, frz1, ↓reduceIte]
end Go.Proofs
namespace Go.Proofs
open Go Go.SL
set_option maxRecDepth 100000
def refpb34 :=
  (And.intro (And.intro (And.intro refpc9 (And.intro @FC.set_from @FC.set_kind)) (And.intro (And.intro @FC.set_n @FC.set_to) (And.intro @FC.set_tx @bl151))) (And.intro (And.intro (And.intro @cells_agg @cells_int) (And.intro @cells_rsl @fieldPlaceOf_eq)) (And.intro (And.intro @sagg_some @sfill1_some) (And.intro @sfill_cons @sfill_nil))))
theorem b151k2r (fi fn ti tn n : Int) (rows : List (List SV)) : sBuild Try.prog 151 [(0, .v (.int .i64 2)), (6, .agg [.v (.int .i64 fi), .v (.int .i64 fn)]), (7, .agg [.v (.int .i64 ti), .v (.int .i64 tn)]), (5, .v (.int .i64 n)), (13, .rsl 1 rows)] = some ⟨.agg (FC.c { zF with kind := .v (.int .i64 2), fi := .v (.int .i64 fi), fn := .v (.int .i64 fn), ti := .v (.int .i64 ti), tn := .v (.int .i64 tn), n := .v (.int .i64 n), tx := .rsl 1 rows }), {}, True⟩ := by
  simp (disch := simp [FC.c_length, I16.c_length]) only [refpb34, Option.map_some]
def refpb35 :=
  (And.intro (And.intro (And.intro refpc2 (And.intro refpc1 refpc5)) (And.intro refpc3 (And.intro refpc4 refpc6))) (And.intro (And.intro refpc7 (And.intro refpc11 refpc8)) (And.intro refpc9 (And.intro @RE.c_length @b151k2r))))
theorem fit_ack (F : Frm) (a b : Int) (t : List UInt8) (hF : decide (F.kind = 3) = true) (id pid : I16) (up op : Bool) (mi mn pi pn kn gt : Int) (k : Nat) (ts : List (List UInt8)) :
    SCall Try.prog 105 [.agg (.v (.int .i64 5) :: .v (.int .i64 a) :: .v (.int .i64 b) :: bsl t :: F.fc.c), .ptr 0 0 0] [some (.row ⟨41, 1, false, 142, fun _ => RE.c ⟨id, .v (.bool up), .v (.bool op), .v (.int .i64 mi), .v (.int .i64 mn), .v (.int .i64 pi), .v (.int .i64 pn), pid, .slc 1 0 k, .v (.int .i64 kn), .v (.int .i64 gt)⟩⟩), some (.row ⟨1, k, false, 35, trow ts⟩)]
      fun r L => r = .ret (.agg (FC.c { zF with kind := .v (.int .i64 3), fi := .v (.int .i64 pi), fn := .v (.int .i64 pn), ti := .v (.int .i64 mi), tn := .v (.int .i64 mn), n := .v (.int .i64 F.n) })) ∧ L = [none, none] := by
  have h1 : F.fc.c.length = 95 := FC.c_length _
  have h2 := frm_one F
  have h3 := Frm.flat F
  have h4 : (SV.v (.int .i64 5) :: .v (.int .i64 a) :: .v (.int .i64 b) :: bsl t :: F.fc.c).length = 99 := by simp [h1]
  have h7 : (SV.v (.int .i64 5) :: .v (.int .i64 a) :: .v (.int .i64 b) :: bsl t :: F.fc.c).all SV.one = true := by simp [h2, one_v, oneCell_int, one_rsl]
  have e0 : cellAt F.fc.c 0 = .v (.int .i64 F.kind) := FC.at_kind _
  have e1 : cellAt F.fc.c 51 = .v (.int .i64 F.n) := FC.at_n _
  have e2 : cellAt F.fc.c 94 = bsl F.tx := FC.at_tx _
  refine SCall.mk (fn := Try.f105) (by kernel_rfl) rfl (Nat.le_of_ble_eq_true (by kernel_rfl)) ?_
  refine Sem.go (k := 1000) ?_
  simp -dsimp (decide := true) (disch := first | omega | simp (decide := true) only [refpb19]) only [refpb29, ↓brun_b, envOf, reduceIte, Nat.reduceEqDiff, Nat.reduceAdd, Nat.reduceSub, Nat.reduceMul, Nat.reduceBEq, Nat.reduceLeDiff, Nat.reduceLT, Int.reduceToNat, rho, h1, h2, h4, h7, e0, hF]
  refine Sem.draw' (by kernel_rfl) (.one 0 (.one 1 (.one 2 (.one 3 (.one 4 (.one 5 (.one 6 (.one 7 (.one 8 (.one 9 (.one 10 (.one 11 (.alt 12 .done .non))))))))))))) [3] (by kernel_rfl) (fun G ff hG hf => ?_)
  simp (decide := true) only [refpb4, Nat.reduceAdd] at hG ⊢
  simp -dsimp (decide := true) (disch := first | omega | simp (decide := true) only [refpb19]) only [refpb35, ↓brun_b, envOf, reduceIte, Nat.reduceEqDiff, Nat.reduceAdd, Nat.reduceSub, Nat.reduceMul, Nat.reduceBEq, Nat.reduceLeDiff, Nat.reduceLT, Int.reduceToNat, rho, hG, e1, e2]
  refine hf _ (Sem.go (k := 1000) ?_)
  simp (decide := true) only [back_mk, backL_in, backL_row, backL_none, backL_nil, Nat.zero_add, Nat.reduceAdd]
  simp -dsimp (decide := true) (disch := first | omega | simp (decide := true) only [refpb19]) only [refpb32, ↓brun_b, envOf, reduceIte, Nat.reduceEqDiff, Nat.reduceAdd, Nat.reduceSub, Nat.reduceMul, Nat.reduceBEq, Nat.reduceLeDiff, Nat.reduceLT, Int.reduceToNat, rho]
  refine SQ.runL (rs := [.cell 4 151]) [0, 1] _ _ rfl (And.intro rfl rfl) (by decide) rfl rfl ?_ ?_
  · simp -dsimp (decide := true) (disch := first | omega | simp (decide := true) only [refpb19]) only [refpb30, ↓brun_b, envOf, reduceIte, Nat.reduceEqDiff, Nat.reduceAdd, Nat.reduceSub, Nat.reduceMul, Nat.reduceBEq, Nat.reduceLeDiff, Nat.reduceLT, Int.reduceToNat, rho, frz1, ↓reduceIte]
  · simp -dsimp (decide := true) (disch := first | omega | simp (decide := true) only [refpb19]) only [refpb33, ↓brun_b, envOf, reduceIte, Nat.reduceEqDiff, Nat.reduceAdd, Nat.reduceSub, Nat.reduceMul, Nat.reduceBEq, Nat.reduceLeDiff, Nat.reduceLT, Int.reduceToNat, rho, frz1, ↓reduceIte]
theorem fit_data (F : Frm) (a b : Int) (t : List UInt8) (hF : decide (F.kind = 3) = false) (id pid : I16) (up op : Bool) (mi mn pi pn kn gt : Int) (k : Nat) (ts : List (List UInt8)) :
    SCall Try.prog 105 [.agg (.v (.int .i64 5) :: .v (.int .i64 a) :: .v (.int .i64 b) :: bsl t :: F.fc.c), .ptr 0 0 0] [some (.row ⟨41, 1, false, 142, fun _ => RE.c ⟨id, .v (.bool up), .v (.bool op), .v (.int .i64 mi), .v (.int .i64 mn), .v (.int .i64 pi), .v (.int .i64 pn), pid, .slc 1 0 k, .v (.int .i64 kn), .v (.int .i64 gt)⟩⟩), some (.row ⟨1, k, false, 35, trow ts⟩)]
      fun r L => r = .ret (.agg (FC.c { zF with kind := .v (.int .i64 2), fi := .v (.int .i64 pi), fn := .v (.int .i64 pn), ti := .v (.int .i64 mi), tn := .v (.int .i64 mn), n := .v (.int .i64 F.n), tx := bsl F.tx })) ∧ L = [none, none] := by
  have h1 : F.fc.c.length = 95 := FC.c_length _
  have h2 := frm_one F
  have h3 := Frm.flat F
  have h4 : (SV.v (.int .i64 5) :: .v (.int .i64 a) :: .v (.int .i64 b) :: bsl t :: F.fc.c).length = 99 := by simp [h1]
  have h7 : (SV.v (.int .i64 5) :: .v (.int .i64 a) :: .v (.int .i64 b) :: bsl t :: F.fc.c).all SV.one = true := by simp [h2, one_v, oneCell_int, one_rsl]
  have e0 : cellAt F.fc.c 0 = .v (.int .i64 F.kind) := FC.at_kind _
  have e1 : cellAt F.fc.c 51 = .v (.int .i64 F.n) := FC.at_n _
  have e2 : cellAt F.fc.c 94 = bsl F.tx := FC.at_tx _
  refine SCall.mk (fn := Try.f105) (by kernel_rfl) rfl (Nat.le_of_ble_eq_true (by kernel_rfl)) ?_
  refine Sem.go (k := 1000) ?_
  simp -dsimp (decide := true) (disch := first | omega | simp (decide := true) only [refpb19]) only [refpb29, ↓brun_b, envOf, reduceIte, Nat.reduceEqDiff, Nat.reduceAdd, Nat.reduceSub, Nat.reduceMul, Nat.reduceBEq, Nat.reduceLeDiff, Nat.reduceLT, Int.reduceToNat, rho, h1, h2, h4, h7, e0, hF]
  refine Sem.draw' (by kernel_rfl) (.one 0 (.one 1 (.one 2 (.one 3 (.one 4 (.one 5 (.one 6 (.one 7 (.one 8 (.one 9 (.one 10 (.one 11 (.one 12 (.one 13 (.one 14 (.alt 15 .done .non)))))))))))))))) [3] (by kernel_rfl) (fun G ff hG hf => ?_)
  simp (decide := true) only [refpb4, Nat.reduceAdd] at hG ⊢
  simp -dsimp (decide := true) (disch := first | omega | simp (decide := true) only [refpb19]) only [refpb35, ↓brun_b, envOf, reduceIte, Nat.reduceEqDiff, Nat.reduceAdd, Nat.reduceSub, Nat.reduceMul, Nat.reduceBEq, Nat.reduceLeDiff, Nat.reduceLT, Int.reduceToNat, rho, hG, e1, e2]
  refine hf _ (Sem.go (k := 1000) ?_)
  simp (decide := true) only [back_mk, backL_in, backL_row, backL_none, backL_nil, Nat.zero_add, Nat.reduceAdd]
  simp -dsimp (decide := true) (disch := first | omega | simp (decide := true) only [refpb19]) only [refpb32, ↓brun_b, envOf, reduceIte, Nat.reduceEqDiff, Nat.reduceAdd, Nat.reduceSub, Nat.reduceMul, Nat.reduceBEq, Nat.reduceLeDiff, Nat.reduceLT, Int.reduceToNat, rho]
  refine SQ.runL (rs := [.cell 4 151]) [0, 1] _ _ rfl (And.intro rfl rfl) (by decide) rfl rfl ?_ ?_
  · simp -dsimp (decide := true) (disch := first | omega | simp (decide := true) only [refpb19]) only [refpb30, ↓brun_b, envOf, reduceIte, Nat.reduceEqDiff, Nat.reduceAdd, Nat.reduceSub, Nat.reduceMul, Nat.reduceBEq, Nat.reduceLeDiff, Nat.reduceLT, Int.reduceToNat, rho, frz1, ↓reduceIte]
  · simp -dsimp (decide := true) (disch := first | omega | simp (decide := true) only [refpb19]) only [refpb33, ↓brun_b, envOf, reduceIte, Nat.reduceEqDiff, Nat.reduceAdd, Nat.reduceSub, Nat.reduceMul, Nat.reduceBEq, Nat.reduceLeDiff, Nat.reduceLT, Int.reduceToNat, rho, frz1, ↓reduceIte]
end Go.Proofs
