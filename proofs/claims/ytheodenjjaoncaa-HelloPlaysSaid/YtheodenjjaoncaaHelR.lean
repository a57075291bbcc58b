/- Contracts of functions that the laws reach, on abstract values, and what they need: no conditions but those that each theorem states. -/
import Derived.Test.YtheodenjjaoncaaBodP
set_option linter.unusedVariables false
set_option linter.unusedSimpArgs false
set_option linter.defProp false
namespace Go.Proofs
open Go Go.SL
set_option maxRecDepth 100000
def helrc0 :=
  (And.intro (And.intro (And.intro (And.intro (And.intro @AD.c_length @AD.one) (And.intro @AK.c_length @AK.one)) (And.intro (And.intro @CP.c_length @CP.one) (And.intro @DR.c_length @DR.one))) (And.intro (And.intro (And.intro @EC.one @FC.flat_eq) (And.intro @FC.one_eq @GT.c_length)) (And.intro (And.intro @GT.one @H1.one) (And.intro @I16.one @IC.one)))) (And.intro (And.intro (And.intro (And.intro @PE.c_length @PE.one) (And.intro @PK.c_length @PK.one)) (And.intro (And.intro @PT.c_length @PT.one) (And.intro @SU.c_length @SU.one))) (And.intro (And.intro (And.intro @bdset_a @lrow_len) (And.intro @trows_length @zD.eq_1)) (And.intro (And.intro @zE.eq_1 @zF.eq_1) (And.intro @zH.eq_1 @zK.eq_1)))))
def helrc1 :=
  (And.intro (And.intro (And.intro (And.intro @AD.flat @AK.flat) (And.intro @CP.flat @DR.flat)) (And.intro (And.intro @EC.flat @GT.flat) (And.intro @H1.flat (And.intro @I16.flat @IC.flat)))) (And.intro (And.intro (And.intro @PE.flat @PK.flat) (And.intro @PT.flat (And.intro @SU.flat @brow_flat))) (And.intro (And.intro @idrs_flat @lrow_flat) (And.intro @lrows_flat (And.intro @trow_flat @trows_flat)))))
def helrc2 :=
  (And.intro (And.intro @EC.c_length (And.intro @FC.c_length @H1.c_length)) (And.intro @I16.c_length (And.intro @brow_len @trow_len)))
def helrb0 :=
  (And.intro (And.intro (And.intro helrc0 helrc1) (And.intro helrc2 @IC.c_length)) (And.intro (And.intro @fh_flat @fk_flat) (And.intro @frm_flat (And.intro @idrs_len @lrows_length))))
def helrc3 :=
  (And.intro (And.intro (And.intro (And.intro (And.intro (And.intro @EC.at_mi @EC.at_mn) (And.intro @EC.at_op @EC.at_pi)) (And.intro (And.intro @EC.at_pn @EC.at_up) (And.intro @EC.at_w (And.intro @EC.ent @EC.part)))) (And.intro (And.intro (And.intro @EC.part_id @EC.part_mine) (And.intro @EC.part_peer @EC.part_pid)) (And.intro (And.intro @EC.renc @EC.set_all) (And.intro @EC.set_mine (And.intro @EC.set_op @EC.set_peer))))) (And.intro (And.intro (And.intro (And.intro @EC.set_pid @EC.set_up) (And.intro @EC.set_w @FC.part)) (And.intro (And.intro @FC.set_all @H1.at_fi) (And.intro @H1.at_fn (And.intro @H1.at_ti @H1.at_tn)))) (And.intro (And.intro (And.intro @H1.part @H1.part_a) (And.intro @H1.part_from @H1.part_to)) (And.intro (And.intro @H1.set_all @I16.part) (And.intro @Int.cast_ofNat_Int (And.intro @List.replicate_succ.{0} @List.replicate_zero.{0})))))) (And.intro (And.intro (And.intro (And.intro (And.intro @SKren_row @after_mk) (And.intro @al135 @al151)) (And.intro (And.intro @al162 @al210) (And.intro @al214 (And.intro @al218 @al23)))) (And.intro (And.intro (And.intro @brow_cell @build135z) (And.intro @build151a @build151h)) (And.intro (And.intro @build151z @build162z) (And.intro @build214 (And.intro @build23z @cellAt_succ))))) (And.intro (And.intro (And.intro (And.intro @cellAt_zero @mergeL_done) (And.intro @mergeL_own @mergeL_row)) (And.intro (And.intro @mk210 @mk214) (And.intro @mk218 (And.intro @renL_cons @renL_flat)))) (And.intro (And.intro (And.intro @renL_nil @ren_tup) (And.intro @sop_assert (And.intro @sp02 @sp05))) (And.intro (And.intro @sp22 @splice_0) (And.intro @splice_c (And.intro @splice_s @trow_cell)))))))
def helrc4 :=
  (And.intro (And.intro (And.intro (And.intro @FC.at_fi (And.intro @FC.at_fn @FC.at_is)) (And.intro @FC.at_kind (And.intro @FC.at_n @FC.at_op))) (And.intro (And.intro @FC.at_pn (And.intro @FC.at_ti @FC.at_tn)) (And.intro @FC.at_toA (And.intro @FC.at_tr @FC.at_ttl)))) (And.intro (And.intro (And.intro @FC.at_tx (And.intro @FC.at_val @FC.at_vn)) (And.intro @FC.part_P (And.intro @FC.part_a @FC.part_b))) (And.intro (And.intro @FC.part_from (And.intro @FC.part_it @FC.part_key)) (And.intro (And.intro @FC.part_to @FC.part_ver) (And.intro @FC.part_vwho @FC.part_who)))))
def helrc5 :=
  (And.intro (And.intro (And.intro (And.intro @beq_self_eq_true.{0} @brun_a) (And.intro @cond_false.{1} (And.intro @cond_true.{1} @tab.a135))) (And.intro (And.intro @tab.a2 @tab.a23) (And.intro @tab.a4 (And.intro @tab.a5 @tab.f135x0)))) (And.intro (And.intro (And.intro @tab.f135x1 @tab.s135) (And.intro @tab.s2 (And.intro @tab.s23 @tab.s4))) (And.intro (And.intro @tab.s5 (And.intro @tab.u135 @tab.u2)) (And.intro @tab.u23 (And.intro @tab.u4 @tab.u5)))))
def helrc6 :=
  (And.intro (And.intro (And.intro (And.intro @tab.a121 @tab.a204) (And.intro @tab.a50 @tab.f204x0)) (And.intro (And.intro @tab.f204x1 @tab.f204x2) (And.intro @tab.f204x3 @tab.f204x4))) (And.intro (And.intro (And.intro @tab.f204x5 @tab.f204x6) (And.intro @tab.s121 @tab.s204)) (And.intro (And.intro @tab.s50 @tab.u121) (And.intro @tab.u204 @tab.u50))))
def helrc7 :=
  (And.intro (And.intro (And.intro (And.intro (And.intro @tab.a144 @tab.a145) (And.intro @tab.a147 (And.intro @tab.a149 @tab.a151))) (And.intro (And.intro @tab.a3 @tab.a79) (And.intro @tab.f144x0 (And.intro @tab.f144x1 @tab.f147x0)))) (And.intro (And.intro (And.intro @tab.f147x1 @tab.f149x0) (And.intro @tab.f149x1 (And.intro @tab.f149x2 @tab.f151x0))) (And.intro (And.intro @tab.f151x1 (And.intro @tab.f151x10 @tab.f151x11)) (And.intro @tab.f151x12 (And.intro @tab.f151x13 @tab.f151x2))))) (And.intro (And.intro (And.intro (And.intro @tab.f151x3 @tab.f151x4) (And.intro @tab.f151x5 (And.intro @tab.f151x6 @tab.f151x7))) (And.intro (And.intro @tab.f151x8 @tab.f151x9) (And.intro @tab.s144 (And.intro @tab.s145 @tab.s147)))) (And.intro (And.intro (And.intro @tab.s149 @tab.s151) (And.intro @tab.s3 (And.intro @tab.s79 @tab.u144))) (And.intro (And.intro @tab.u145 (And.intro @tab.u147 @tab.u149)) (And.intro @tab.u151 (And.intro @tab.u3 @tab.u79))))))
def helrc8 :=
  (And.intro (And.intro (And.intro (And.intro @tab.a162 @tab.a214) (And.intro @tab.a218 (And.intro @tab.f162x0 @tab.f162x1))) (And.intro (And.intro @tab.f162x2 @tab.f162x3) (And.intro @tab.f162x4 (And.intro @tab.f214x0 @tab.f214x1)))) (And.intro (And.intro (And.intro @tab.f214x2 @tab.f218x0) (And.intro @tab.f218x1 (And.intro @tab.f218x2 @tab.s162))) (And.intro (And.intro @tab.s214 @tab.s218) (And.intro @tab.u162 (And.intro @tab.u214 @tab.u218)))))
def helrc9 :=
  (And.intro (And.intro (And.intro @tab.a181 @tab.a210) (And.intro @tab.f210x0 (And.intro @tab.f210x1 @tab.f210x2))) (And.intro (And.intro @tab.f210x3 @tab.s181) (And.intro @tab.s210 (And.intro @tab.u181 @tab.u210))))
def helrb1 :=
  (And.intro (And.intro (And.intro (And.intro helrc3 helrc2) (And.intro helrc4 helrc5)) (And.intro (And.intro helrc6 helrc7) (And.intro helrc8 helrc9))) (And.intro (And.intro (And.intro @fh_flat @fk_flat) (And.intro @tab.a124 @tab.a35)) (And.intro (And.intro @tab.s124 @tab.s35) (And.intro @tab.u124 @tab.u35))))
def helrb2 :=
  (And.intro (And.intro (And.intro (And.intro helrc3 helrc2) (And.intro helrc5 (And.intro helrc6 helrc7))) (And.intro (And.intro helrc8 helrc9) (And.intro @bwk_a (And.intro @eq_self.{1} @fh_flat)))) (And.intro (And.intro (And.intro @fk_flat @forall_const.{1}) (And.intro @frm_flat (And.intro @implies_true.{0} @implies_true.{1}))) (And.intro (And.intro @tab.a124 (And.intro @tab.a35 @tab.s124)) (And.intro @tab.s35 (And.intro @tab.u124 @tab.u35)))))
def helrb3 :=
  (And.intro (And.intro (And.intro helrc5 helrc6) (And.intro helrc7 (And.intro helrc8 helrc9))) (And.intro (And.intro @tab.a124 (And.intro @tab.a35 @tab.s124)) (And.intro @tab.s35 (And.intro @tab.u124 @tab.u35))))
def helrb4 :=
  (And.intro (And.intro (And.intro (And.intro helrc3 helrc2) (And.intro helrc4 (And.intro helrc5 helrc6))) (And.intro (And.intro helrc7 helrc8) (And.intro helrc9 (And.intro @bwk_a @eq_self.{1})))) (And.intro (And.intro (And.intro @fh_flat @fk_flat) (And.intro @forall_const.{1} (And.intro @implies_true.{0} @implies_true.{1}))) (And.intro (And.intro @tab.a124 (And.intro @tab.a35 @tab.s124)) (And.intro @tab.s35 (And.intro @tab.u124 @tab.u35)))))
theorem hear_other (F : Frm) (x : SV) (y : Bool) (hx : x.flat = true) (ho : Pure Try.prog 119 [.agg F.fc.c] (.tup [x, .v (.bool y)]))
    (a1 : sAssert Try.prog x 214 true = some ⟨.tup [.agg zH.c, .v (.bool false)], {}, True⟩) (a2 : sAssert Try.prog x 210 true = some ⟨.tup [.agg zD, .v (.bool false)], {}, True⟩) (a3 : sAssert Try.prog x 218 true = some ⟨.tup [.agg zK, .v (.bool false)], {}, True⟩)
    (e0 : sExtract (.tup [x, .v (.bool y)]) 0 = some ⟨x, {}, True⟩)
    (id pid : I16) (op : Bool) (mi mn pi pn nxi nxn base got : Int) (ts : List (List UInt8)) :
    SCall Try.prog 106 [.ptr 0 0 0, .agg F.fc.c, .agg [.v (.int .i64 nxi), .v (.int .i64 nxn)]] [some (.row ⟨39, 1, false, 204, fun _ => EC.c ⟨id, .v (.bool true), .v (.bool op), .v (.int .i64 mi), .v (.int .i64 mn), .v (.int .i64 pi), .v (.int .i64 pn), pid, .ptr 1 0 0⟩⟩), some (.row ⟨3, 1, false, 197, fun _ => [.v (.int .i64 base), .slc 2 0 ts.length, .v (.int .i64 got)]⟩), some (.row ⟨1, ts.length, false, 35, trow ts⟩)]
      fun r L => r = .ret (.agg [.v (.bool false), .v (.bool false), .v (.slice none 0 0), .v (.bool false), .v (.slice none 0 0)]) ∧ L = [none, none, none] := by
  have hr : ∀ ρ, SV.ren ρ x = x := fun ρ => SV.flat_ren ρ x hx
  simp only [Frm.fc] at ho ⊢
  refine SCall.mk (fn := Try.f106) (by kernel_rfl) rfl (Nat.le_of_ble_eq_true (by kernel_rfl)) ?_
  refine Sem.go (k := 1000) ?_
  simp -dsimp (decide := true) (disch := first | omega | simp (decide := true) only [helrb0]) only [helrb1, ↓brun_b, envOf, reduceIte, Nat.reduceEqDiff, Nat.reduceAdd, Nat.reduceSub, Nat.reduceMul, Nat.reduceBEq, Nat.reduceLeDiff, Nat.reduceLT, Int.reduceToNat, rho]
  refine SemOps.callw [] cal.f119 (ho) rfl rfl rfl (by simp -dsimp (decide := true) (disch := first | omega | simp (decide := true) only [helrb0]) only [helrb2, ↓brun_b, envOf, reduceIte, Nat.reduceEqDiff, Nat.reduceAdd, Nat.reduceSub, Nat.reduceMul, Nat.reduceBEq, Nat.reduceLeDiff, Nat.reduceLT, Int.reduceToNat, rho, frz1, ↓reduceIte]) rfl (by simp -dsimp (decide := true) (disch := first | omega | simp (decide := true) only [helrb0]) only [helrb2, ↓brun_b, envOf, reduceIte, Nat.reduceEqDiff, Nat.reduceAdd, Nat.reduceSub, Nat.reduceMul, Nat.reduceBEq, Nat.reduceLeDiff, Nat.reduceLT, Int.reduceToNat, rho, frz1, ↓reduceIte]) (by simp -dsimp (decide := true) (disch := first | omega | simp (decide := true) only [helrb0]) only [helrb3, ↓brun_b, envOf, reduceIte, Nat.reduceEqDiff, Nat.reduceAdd, Nat.reduceSub, Nat.reduceMul, Nat.reduceBEq, Nat.reduceLeDiff, Nat.reduceLT, Int.reduceToNat]) ?_
  refine SemOps.go (k := 1000) ?_
  simp -dsimp (decide := true) (disch := first | omega | simp (decide := true) only [helrb0]) only [helrb1, ↓brun_b, envOf, reduceIte, Nat.reduceEqDiff, Nat.reduceAdd, Nat.reduceSub, Nat.reduceMul, Nat.reduceBEq, Nat.reduceLeDiff, Nat.reduceLT, Int.reduceToNat, rho, a1, a2, a3, e0, hr]
  refine SQ.runL (rs := [.cell 6 162]) [0, 1, 2] _ _ rfl (And.intro rfl rfl) (by decide) rfl rfl ?_ ?_
  · simp -dsimp (decide := true) (disch := first | omega | simp (decide := true) only [helrb0]) only [helrb4, ↓brun_b, envOf, reduceIte, Nat.reduceEqDiff, Nat.reduceAdd, Nat.reduceSub, Nat.reduceMul, Nat.reduceBEq, Nat.reduceLeDiff, Nat.reduceLT, Int.reduceToNat, rho, frz1, ↓reduceIte]
  · simp -dsimp (decide := true) (disch := first | omega | simp (decide := true) only [helrb0]) only [helrb4, ↓brun_b, envOf, reduceIte, Nat.reduceEqDiff, Nat.reduceAdd, Nat.reduceSub, Nat.reduceMul, Nat.reduceBEq, Nat.reduceLeDiff, Nat.reduceLT, Int.reduceToNat, rho, frz1, ↓reduceIte]
theorem hear_none (F : Frm) (hk : F.kind < 1 ∨ 12 < F.kind) (id pid : I16) (op : Bool) (mi mn pi pn nxi nxn base got : Int) (ts : List (List UInt8)) :
    SCall Try.prog 106 [.ptr 0 0 0, .agg F.fc.c, .agg [.v (.int .i64 nxi), .v (.int .i64 nxn)]] [some (.row ⟨39, 1, false, 204, fun _ => EC.c ⟨id, .v (.bool true), .v (.bool op), .v (.int .i64 mi), .v (.int .i64 mn), .v (.int .i64 pi), .v (.int .i64 pn), pid, .ptr 1 0 0⟩⟩), some (.row ⟨3, 1, false, 197, fun _ => [.v (.int .i64 base), .slc 2 0 ts.length, .v (.int .i64 got)]⟩), some (.row ⟨1, ts.length, false, 35, trow ts⟩)]
      fun r L => r = .ret (.agg [.v (.bool false), .v (.bool false), .v (.slice none 0 0), .v (.bool false), .v (.slice none 0 0)]) ∧ L = [none, none, none] :=
  hear_other F (.v .nilIface) false rfl (of_none F hk) (sassert_nil 214 _ _ tab.u214 (fun _ h => nomatch h) sz214) (sassert_nil 210 _ _ tab.u210 (fun _ h => nomatch h) sz210) (sassert_nil 218 _ _ tab.u218 (fun _ h => nomatch h) sz218) rfl id pid op mi mn pi pn nxi nxn base got ts
end Go.Proofs
namespace Go.Proofs
open Go Go.SL
set_option maxRecDepth 100000
def helrb5 :=
  (And.intro (And.intro helrc1 @fh_flat) (And.intro @fk_flat @frm_flat))
def helrb6 :=
  (And.intro (And.intro (And.intro (And.intro helrc3 helrc2) (And.intro helrc4 helrc5)) (And.intro (And.intro helrc6 helrc7) (And.intro helrc8 helrc9))) (And.intro (And.intro (And.intro @fh_flat @fk_flat) (And.intro @hit218 @tab.a124)) (And.intro (And.intro @tab.a35 @tab.s124) (And.intro @tab.s35 (And.intro @tab.u124 @tab.u35)))))
def helrb7 :=
  (And.intro (And.intro (And.intro @List.length_cons.{0} @List.length_nil.{0}) (And.intro @Nat.zero_add @roL_in)) (And.intro (And.intro @roL_nil @roL_none) (And.intro @roL_row @ro_mk)))
theorem hear_ack_no (F : Frm) (hk : F.kind = 3) (id pid : I16) (op : Bool) (mi mn pi pn nxi nxn base got : Int) (ts : List (List UInt8))
    (hm : ((decide (F.ti = mi) && decide (F.tn = mn)) && (decide (F.fi = pi) && decide (F.fn = pn))) = false) :
    SCall Try.prog 106 [.ptr 0 0 0, .agg F.fc.c, .agg [.v (.int .i64 nxi), .v (.int .i64 nxn)]] [some (.row ⟨39, 1, false, 204, fun _ => EC.c ⟨id, .v (.bool true), .v (.bool op), .v (.int .i64 mi), .v (.int .i64 mn), .v (.int .i64 pi), .v (.int .i64 pn), pid, .ptr 1 0 0⟩⟩), some (.row ⟨3, 1, false, 197, fun _ => [.v (.int .i64 base), .slc 2 0 ts.length, .v (.int .i64 got)]⟩), some (.row ⟨1, ts.length, false, 35, trow ts⟩)]
      fun r L => r = .ret (.agg [.v (.bool false), .v (.bool false), .v (.slice none 0 0), .v (.bool false), .v (.slice none 0 0)]) ∧ L = [none, none, none] := by
  have ho := of_ack F hk
  simp only [Frm.fc] at ho ⊢
  cases c1 : (decide (F.ti = mi) && decide (F.tn = mn))
  · refine SCall.mk (fn := Try.f106) (by kernel_rfl) rfl (Nat.le_of_ble_eq_true (by kernel_rfl)) ?_
    refine Sem.go (k := 1000) ?_
    simp -dsimp (decide := true) (disch := first | omega | simp (decide := true) only [helrb0]) only [helrb1, ↓brun_b, envOf, reduceIte, Nat.reduceEqDiff, Nat.reduceAdd, Nat.reduceSub, Nat.reduceMul, Nat.reduceBEq, Nat.reduceLeDiff, Nat.reduceLT, Int.reduceToNat, rho]
    refine SemOps.callq (k := 1000) cal.f119 (ho) rfl rfl rfl rfl (by simp only [bflat_a, helrb5]) (by simp only [bflat_a, helrb5]) (by simp -dsimp (decide := true) (disch := first | omega | simp (decide := true) only [helrb0]) only [helrb3, ↓brun_b, envOf, reduceIte, Nat.reduceEqDiff, Nat.reduceAdd, Nat.reduceSub, Nat.reduceMul, Nat.reduceBEq, Nat.reduceLeDiff, Nat.reduceLT, Int.reduceToNat]) ?_
    simp -dsimp (decide := true) (disch := first | omega | simp (decide := true) only [helrb0]) only [helrb6, ↓brun_b, envOf, reduceIte, Nat.reduceEqDiff, Nat.reduceAdd, Nat.reduceSub, Nat.reduceMul, Nat.reduceBEq, Nat.reduceLeDiff, Nat.reduceLT, Int.reduceToNat, rho, fun v => miss214 218 v (by decide), fun v => miss210 218 v (by decide)]
    refine Sem.draw' (by kernel_rfl) (.one 0 (.one 1 (.one 2 (.one 3 (.one 4 (.one 5 (.one 6 (.one 7 (.one 8 (.one 9 (.one 10 (.one 11 (.one 12 (.one 13 (.one 14 (.one 15 .done)))))))))))))))) [] (by kernel_rfl) (fun G ff hG hf => ?_)
    simp (decide := true) only [helrb7, Nat.reduceAdd] at hG ⊢
    simp -dsimp (decide := true) (disch := first | omega | simp (decide := true) only [helrb0]) only [helrb1, ↓brun_b, envOf, reduceIte, Nat.reduceEqDiff, Nat.reduceAdd, Nat.reduceSub, Nat.reduceMul, Nat.reduceBEq, Nat.reduceLeDiff, Nat.reduceLT, Int.reduceToNat, rho, sBin_agg .eql 23 _ _ _ (I16.cellsEq _ _), sBin_agg .eql 135 _ _ _ (ceq135 _ _ _ _), sBin_agg .eql 144 _ _ _ (ceq144 _ _ _ _), sBin_agg .eql 147 _ _ _ (ceq147 _ _ _ _), sBin_agg .neq 23 _ _ _ (I16.cellsEq _ _), sBin_agg .neq 135 _ _ _ (ceq135 _ _ _ _), hG, c1]
    refine And.intro (flat135 _ _ _ _) ?_
    refine hf _ (Sem.go (k := 1000) ?_)
    simp (decide := true) only [back_mk, backL_in, backL_row, backL_none, backL_nil, Nat.zero_add, Nat.reduceAdd]
    simp -dsimp (decide := true) (disch := first | omega | simp (decide := true) only [helrb0]) only [helrb1, ↓brun_b, envOf, reduceIte, Nat.reduceEqDiff, Nat.reduceAdd, Nat.reduceSub, Nat.reduceMul, Nat.reduceBEq, Nat.reduceLeDiff, Nat.reduceLT, Int.reduceToNat, rho]
    refine SQ.runL (rs := [.cell 6 162]) [0, 1, 2] _ _ rfl (And.intro rfl rfl) (by decide) rfl rfl ?_ ?_
    · simp -dsimp (decide := true) (disch := first | omega | simp (decide := true) only [helrb0]) only [helrb4, ↓brun_b, envOf, reduceIte, Nat.reduceEqDiff, Nat.reduceAdd, Nat.reduceSub, Nat.reduceMul, Nat.reduceBEq, Nat.reduceLeDiff, Nat.reduceLT, Int.reduceToNat, rho, frz1, ↓reduceIte]
    · simp -dsimp (decide := true) (disch := first | omega | simp (decide := true) only [helrb0]) only [helrb4, ↓brun_b, envOf, reduceIte, Nat.reduceEqDiff, Nat.reduceAdd, Nat.reduceSub, Nat.reduceMul, Nat.reduceBEq, Nat.reduceLeDiff, Nat.reduceLT, Int.reduceToNat, rho, frz1, ↓reduceIte]
  · rw [c1, Bool.true_and] at hm
    refine SCall.mk (fn := Try.f106) (by kernel_rfl) rfl (Nat.le_of_ble_eq_true (by kernel_rfl)) ?_
    refine Sem.go (k := 1000) ?_
    simp -dsimp (decide := true) (disch := first | omega | simp (decide := true) only [helrb0]) only [helrb1, ↓brun_b, envOf, reduceIte, Nat.reduceEqDiff, Nat.reduceAdd, Nat.reduceSub, Nat.reduceMul, Nat.reduceBEq, Nat.reduceLeDiff, Nat.reduceLT, Int.reduceToNat, rho]
    refine SemOps.callq (k := 1000) cal.f119 (ho) rfl rfl rfl rfl (by simp only [bflat_a, helrb5]) (by simp only [bflat_a, helrb5]) (by simp -dsimp (decide := true) (disch := first | omega | simp (decide := true) only [helrb0]) only [helrb3, ↓brun_b, envOf, reduceIte, Nat.reduceEqDiff, Nat.reduceAdd, Nat.reduceSub, Nat.reduceMul, Nat.reduceBEq, Nat.reduceLeDiff, Nat.reduceLT, Int.reduceToNat]) ?_
    simp -dsimp (decide := true) (disch := first | omega | simp (decide := true) only [helrb0]) only [helrb6, ↓brun_b, envOf, reduceIte, Nat.reduceEqDiff, Nat.reduceAdd, Nat.reduceSub, Nat.reduceMul, Nat.reduceBEq, Nat.reduceLeDiff, Nat.reduceLT, Int.reduceToNat, rho, fun v => miss214 218 v (by decide), fun v => miss210 218 v (by decide)]
    refine Sem.draw' (by kernel_rfl) (.one 0 (.one 1 (.one 2 (.one 3 (.one 4 (.one 5 (.one 6 (.one 7 (.one 8 (.one 9 (.one 10 (.one 11 (.one 12 (.one 13 (.one 14 (.one 15 .done)))))))))))))))) [] (by kernel_rfl) (fun G ff hG hf => ?_)
    simp (decide := true) only [helrb7, Nat.reduceAdd] at hG ⊢
    simp -dsimp (decide := true) (disch := first | omega | simp (decide := true) only [helrb0]) only [helrb1, ↓brun_b, envOf, reduceIte, Nat.reduceEqDiff, Nat.reduceAdd, Nat.reduceSub, Nat.reduceMul, Nat.reduceBEq, Nat.reduceLeDiff, Nat.reduceLT, Int.reduceToNat, rho, sBin_agg .eql 23 _ _ _ (I16.cellsEq _ _), sBin_agg .eql 135 _ _ _ (ceq135 _ _ _ _), sBin_agg .eql 144 _ _ _ (ceq144 _ _ _ _), sBin_agg .eql 147 _ _ _ (ceq147 _ _ _ _), sBin_agg .neq 23 _ _ _ (I16.cellsEq _ _), sBin_agg .neq 135 _ _ _ (ceq135 _ _ _ _), hG, c1, hm]
    refine And.intro (flat135 _ _ _ _) (And.intro (flat135 _ _ _ _) ?_)
    refine hf _ (Sem.go (k := 1000) ?_)
    simp (decide := true) only [back_mk, backL_in, backL_row, backL_none, backL_nil, Nat.zero_add, Nat.reduceAdd]
    simp -dsimp (decide := true) (disch := first | omega | simp (decide := true) only [helrb0]) only [helrb1, ↓brun_b, envOf, reduceIte, Nat.reduceEqDiff, Nat.reduceAdd, Nat.reduceSub, Nat.reduceMul, Nat.reduceBEq, Nat.reduceLeDiff, Nat.reduceLT, Int.reduceToNat, rho]
    refine SQ.runL (rs := [.cell 6 162]) [0, 1, 2] _ _ rfl (And.intro rfl rfl) (by decide) rfl rfl ?_ ?_
    · simp -dsimp (decide := true) (disch := first | omega | simp (decide := true) only [helrb0]) only [helrb4, ↓brun_b, envOf, reduceIte, Nat.reduceEqDiff, Nat.reduceAdd, Nat.reduceSub, Nat.reduceMul, Nat.reduceBEq, Nat.reduceLeDiff, Nat.reduceLT, Int.reduceToNat, rho, frz1, ↓reduceIte]
    · simp -dsimp (decide := true) (disch := first | omega | simp (decide := true) only [helrb0]) only [helrb4, ↓brun_b, envOf, reduceIte, Nat.reduceEqDiff, Nat.reduceAdd, Nat.reduceSub, Nat.reduceMul, Nat.reduceBEq, Nat.reduceLeDiff, Nat.reduceLT, Int.reduceToNat, rho, frz1, ↓reduceIte]
def helrb8 :=
  (And.intro (And.intro (And.intro (And.intro helrc3 helrc2) (And.intro helrc5 (And.intro helrc6 helrc7))) (And.intro (And.intro helrc8 helrc9) (And.intro @bwk_a (And.intro @eq_self.{1} @fh_flat)))) (And.intro (And.intro (And.intro @fk_flat @forall_const.{1}) (And.intro @implies_true.{0} (And.intro @implies_true.{1} @tab.a124))) (And.intro (And.intro @tab.a35 @tab.s124) (And.intro @tab.s35 (And.intro @tab.u124 @tab.u35)))))
theorem hear_ack_old (F : Frm) (hk : F.kind = 3) (hn : I64 F.n) (id pid : I16) (op : Bool) (mi mn pi pn nxi nxn got : Int) (base : Nat) (ts : List (List UInt8)) (h0 : base + ts.length < 4611686018427387904)
    (hm1 : (decide (F.ti = mi) && decide (F.tn = mn)) = true) (hm2 : (decide (F.fi = pi) && decide (F.fn = pn)) = true) (hb : F.n < base ∨ (base : Int) + ts.length ≤ F.n) :
    SCall Try.prog 106 [.ptr 0 0 0, .agg F.fc.c, .agg [.v (.int .i64 nxi), .v (.int .i64 nxn)]] [some (.row ⟨39, 1, true, 204, fun _ => EC.c ⟨id, .v (.bool true), .v (.bool op), .v (.int .i64 mi), .v (.int .i64 mn), .v (.int .i64 pi), .v (.int .i64 pn), pid, .ptr 1 0 0⟩⟩), some (.row ⟨3, 1, false, 197, fun _ => [.v (.int .i64 (base : Int)), .slc 2 0 ts.length, .v (.int .i64 got)]⟩), some (.row ⟨1, ts.length, false, 35, trow ts⟩)]
      fun r L => r = .ret (.agg [.v (.bool false), .v (.bool (!op)), .v (.slice none 0 0), .v (.bool false), .v (.slice none 0 0)]) ∧ L = [some (.row ⟨39, 1, true, 204, fun _ => EC.c ⟨id, .v (.bool true), .v (.bool true), .v (.int .i64 mi), .v (.int .i64 mn), .v (.int .i64 pi), .v (.int .i64 pn), pid, .ptr 1 0 0⟩⟩), none, none] := by
  have ho := of_ack F hk
  have hc := acked_no base got F.n ts.length (trow ts) hn.1 hn.2 h0 hb
  simp only [Frm.fc] at ho ⊢
  refine SCall.mk (fn := Try.f106) (by kernel_rfl) rfl (Nat.le_of_ble_eq_true (by kernel_rfl)) ?_
  refine Sem.go (k := 1000) ?_
  simp -dsimp (decide := true) (disch := first | omega | simp (decide := true) only [helrb0]) only [helrb1, ↓brun_b, envOf, reduceIte, Nat.reduceEqDiff, Nat.reduceAdd, Nat.reduceSub, Nat.reduceMul, Nat.reduceBEq, Nat.reduceLeDiff, Nat.reduceLT, Int.reduceToNat, rho]
  refine SemOps.callq (k := 1000) cal.f119 (ho) rfl rfl rfl rfl (by simp only [bflat_a, helrb5]) (by simp only [bflat_a, helrb5]) (by simp -dsimp (decide := true) (disch := first | omega | simp (decide := true) only [helrb0]) only [helrb3, ↓brun_b, envOf, reduceIte, Nat.reduceEqDiff, Nat.reduceAdd, Nat.reduceSub, Nat.reduceMul, Nat.reduceBEq, Nat.reduceLeDiff, Nat.reduceLT, Int.reduceToNat]) ?_
  simp -dsimp (decide := true) (disch := first | omega | simp (decide := true) only [helrb0]) only [helrb6, ↓brun_b, envOf, reduceIte, Nat.reduceEqDiff, Nat.reduceAdd, Nat.reduceSub, Nat.reduceMul, Nat.reduceBEq, Nat.reduceLeDiff, Nat.reduceLT, Int.reduceToNat, rho, fun v => miss214 218 v (by decide), fun v => miss210 218 v (by decide)]
  refine Sem.draw' (by kernel_rfl) (.one 0 (.one 1 (.one 2 (.one 3 (.one 4 (.one 5 (.one 6 (.one 7 (.one 8 (.one 9 (.one 10 (.one 11 (.one 12 (.one 13 (.one 14 (.one 15 .done)))))))))))))))) [] (by kernel_rfl) (fun G ff hG hf => ?_)
  simp (decide := true) only [helrb7, Nat.reduceAdd] at hG ⊢
  simp -dsimp (decide := true) (disch := first | omega | simp (decide := true) only [helrb0]) only [helrb1, ↓brun_b, envOf, reduceIte, Nat.reduceEqDiff, Nat.reduceAdd, Nat.reduceSub, Nat.reduceMul, Nat.reduceBEq, Nat.reduceLeDiff, Nat.reduceLT, Int.reduceToNat, rho, sBin_agg .eql 23 _ _ _ (I16.cellsEq _ _), sBin_agg .eql 135 _ _ _ (ceq135 _ _ _ _), sBin_agg .eql 144 _ _ _ (ceq144 _ _ _ _), sBin_agg .eql 147 _ _ _ (ceq147 _ _ _ _), sBin_agg .neq 23 _ _ _ (I16.cellsEq _ _), sBin_agg .neq 135 _ _ _ (ceq135 _ _ _ _), hG, hm1, hm2]
  refine And.intro (flat135 _ _ _ _) (And.intro (flat135 _ _ _ _) ?_)
  refine hf _ (Sem.go (k := 1000) ?_)
  simp (decide := true) only [back_mk, backL_in, backL_row, backL_none, backL_nil, Nat.zero_add, Nat.reduceAdd]
  simp -dsimp (decide := true) (disch := first | omega | simp (decide := true) only [helrb0]) only [helrb1, ↓brun_b, envOf, reduceIte, Nat.reduceEqDiff, Nat.reduceAdd, Nat.reduceSub, Nat.reduceMul, Nat.reduceBEq, Nat.reduceLeDiff, Nat.reduceLT, Int.reduceToNat, rho]
  refine Sem.draw' (by kernel_rfl) (.one 0 (.one 1 (.one 2 (.one 3 (.one 4 (.one 5 (.alt 6 .done .non))))))) [] (by kernel_rfl) (fun G ff hG hf => ?_)
  simp (decide := true) only [helrb7, Nat.reduceAdd] at hG ⊢
  simp -dsimp (decide := true) (disch := first | omega | simp (decide := true) only [helrb0]) only [helrb1, ↓brun_b, envOf, reduceIte, Nat.reduceEqDiff, Nat.reduceAdd, Nat.reduceSub, Nat.reduceMul, Nat.reduceBEq, Nat.reduceLeDiff, Nat.reduceLT, Int.reduceToNat, rho, hG]
  refine OpSem.callw [1, 2] cal.f52 (hc) rfl rfl (by simp -dsimp (decide := true) (disch := first | omega | simp (decide := true) only [helrb0]) only [helrb8, ↓brun_b, envOf, reduceIte, Nat.reduceEqDiff, Nat.reduceAdd, Nat.reduceSub, Nat.reduceMul, Nat.reduceBEq, Nat.reduceLeDiff, Nat.reduceLT, Int.reduceToNat, rho, frz1, ↓reduceIte]) rfl (by simp -dsimp (decide := true) (disch := first | omega | simp (decide := true) only [helrb0]) only [helrb8, ↓brun_b, envOf, reduceIte, Nat.reduceEqDiff, Nat.reduceAdd, Nat.reduceSub, Nat.reduceMul, Nat.reduceBEq, Nat.reduceLeDiff, Nat.reduceLT, Int.reduceToNat, rho, frz1, ↓reduceIte]) (by simp -dsimp (decide := true) (disch := first | omega | simp (decide := true) only [helrb0]) only [helrb3, ↓brun_b, envOf, reduceIte, Nat.reduceEqDiff, Nat.reduceAdd, Nat.reduceSub, Nat.reduceMul, Nat.reduceBEq, Nat.reduceLeDiff, Nat.reduceLT, Int.reduceToNat]) ?_
  simp -dsimp (decide := true) (disch := first | omega | simp (decide := true) only [helrb0]) only [helrb1, ↓brun_b, envOf, reduceIte, Nat.reduceEqDiff, Nat.reduceAdd, Nat.reduceSub, Nat.reduceMul, Nat.reduceBEq, Nat.reduceLeDiff, Nat.reduceLT, Int.reduceToNat, rho, hG]
  refine hf _ (Sem.go (k := 1000) ?_)
  simp (decide := true) only [back_mk, backL_in, backL_row, backL_none, backL_nil, Nat.zero_add, Nat.reduceAdd]
  simp -dsimp (decide := true) (disch := first | omega | simp (decide := true) only [helrb0]) only [helrb1, ↓brun_b, envOf, reduceIte, Nat.reduceEqDiff, Nat.reduceAdd, Nat.reduceSub, Nat.reduceMul, Nat.reduceBEq, Nat.reduceLeDiff, Nat.reduceLT, Int.reduceToNat, rho]
  refine SQ.runL (rs := [.cell 6 162]) [0, 1, 2] _ _ rfl (And.intro rfl rfl) (by decide) rfl rfl ?_ ?_
  · simp -dsimp (decide := true) (disch := first | omega | simp (decide := true) only [helrb0]) only [helrb4, ↓brun_b, envOf, reduceIte, Nat.reduceEqDiff, Nat.reduceAdd, Nat.reduceSub, Nat.reduceMul, Nat.reduceBEq, Nat.reduceLeDiff, Nat.reduceLT, Int.reduceToNat, rho, frz1, ↓reduceIte]
  · simp -dsimp (decide := true) (disch := first | omega | simp (decide := true) only [helrb0]) only [helrb4, ↓brun_b, envOf, reduceIte, Nat.reduceEqDiff, Nat.reduceAdd, Nat.reduceSub, Nat.reduceMul, Nat.reduceBEq, Nat.reduceLeDiff, Nat.reduceLT, Int.reduceToNat, rho, frz1, ↓reduceIte]
theorem hear_ack_new (F : Frm) (hk : F.kind = 3) (id pid : I16) (op : Bool) (mi mn pi pn nxi nxn got : Int) (base j : Nat) (ts : List (List UInt8)) (h0 : base + ts.length < 4611686018427387904) (h1 : ts.length * 24 ≤ 140737488355328) (hj : j < ts.length)
    (hm1 : (decide (F.ti = mi) && decide (F.tn = mn)) = true) (hm2 : (decide (F.fi = pi) && decide (F.fn = pn)) = true) (hb : F.n = ((base + j : Nat) : Int)) :
    SCall Try.prog 106 [.ptr 0 0 0, .agg F.fc.c, .agg [.v (.int .i64 nxi), .v (.int .i64 nxn)]] [some (.row ⟨39, 1, true, 204, fun _ => EC.c ⟨id, .v (.bool true), .v (.bool op), .v (.int .i64 mi), .v (.int .i64 mn), .v (.int .i64 pi), .v (.int .i64 pn), pid, .ptr 1 0 0⟩⟩), some (.row ⟨3, 1, true, 197, fun _ => [.v (.int .i64 (base : Int)), .slc 2 0 ts.length, .v (.int .i64 got)]⟩), some (.row ⟨1, ts.length, true, 35, trow ts⟩)]
      fun r L => r = .ret (.agg [.v (.bool false), .v (.bool (!op)), .v (.slice none 0 0), .v (.bool false), .v (.slice none 0 0)]) ∧ L = [some (.row ⟨39, 1, true, 204, fun _ => EC.c ⟨id, .v (.bool true), .v (.bool true), .v (.int .i64 mi), .v (.int .i64 mn), .v (.int .i64 pi), .v (.int .i64 pn), pid, .ptr 1 0 0⟩⟩), some (.row ⟨3, 1, true, 197, fun _ => [.v (.int .i64 ((base + (j + 1) : Nat) : Int)), .slc 3 0 (ts.length - (j + 1)), .v (.int .i64 got)]⟩), none, some (.row ⟨1, ts.length - (j + 1), true, 35, trow (ts.drop (j + 1))⟩)] := by
  have ho := of_ack F hk
  have hc := acked_yes base got ts j h0 h1 hj
  rw [← hb] at hc
  simp only [Frm.fc] at ho ⊢
  refine SCall.mk (fn := Try.f106) (by kernel_rfl) rfl (Nat.le_of_ble_eq_true (by kernel_rfl)) ?_
  refine Sem.go (k := 1000) ?_
  simp -dsimp (decide := true) (disch := first | omega | simp (decide := true) only [helrb0]) only [helrb1, ↓brun_b, envOf, reduceIte, Nat.reduceEqDiff, Nat.reduceAdd, Nat.reduceSub, Nat.reduceMul, Nat.reduceBEq, Nat.reduceLeDiff, Nat.reduceLT, Int.reduceToNat, rho]
  refine SemOps.callq (k := 1000) cal.f119 (ho) rfl rfl rfl rfl (by simp only [bflat_a, helrb5]) (by simp only [bflat_a, helrb5]) (by simp -dsimp (decide := true) (disch := first | omega | simp (decide := true) only [helrb0]) only [helrb3, ↓brun_b, envOf, reduceIte, Nat.reduceEqDiff, Nat.reduceAdd, Nat.reduceSub, Nat.reduceMul, Nat.reduceBEq, Nat.reduceLeDiff, Nat.reduceLT, Int.reduceToNat]) ?_
  simp -dsimp (decide := true) (disch := first | omega | simp (decide := true) only [helrb0]) only [helrb6, ↓brun_b, envOf, reduceIte, Nat.reduceEqDiff, Nat.reduceAdd, Nat.reduceSub, Nat.reduceMul, Nat.reduceBEq, Nat.reduceLeDiff, Nat.reduceLT, Int.reduceToNat, rho, fun v => miss214 218 v (by decide), fun v => miss210 218 v (by decide)]
  refine Sem.draw' (by kernel_rfl) (.one 0 (.one 1 (.one 2 (.one 3 (.one 4 (.one 5 (.one 6 (.one 7 (.one 8 (.one 9 (.one 10 (.one 11 (.one 12 (.one 13 (.one 14 (.one 15 .done)))))))))))))))) [] (by kernel_rfl) (fun G ff hG hf => ?_)
  simp (decide := true) only [helrb7, Nat.reduceAdd] at hG ⊢
  simp -dsimp (decide := true) (disch := first | omega | simp (decide := true) only [helrb0]) only [helrb1, ↓brun_b, envOf, reduceIte, Nat.reduceEqDiff, Nat.reduceAdd, Nat.reduceSub, Nat.reduceMul, Nat.reduceBEq, Nat.reduceLeDiff, Nat.reduceLT, Int.reduceToNat, rho, sBin_agg .eql 23 _ _ _ (I16.cellsEq _ _), sBin_agg .eql 135 _ _ _ (ceq135 _ _ _ _), sBin_agg .eql 144 _ _ _ (ceq144 _ _ _ _), sBin_agg .eql 147 _ _ _ (ceq147 _ _ _ _), sBin_agg .neq 23 _ _ _ (I16.cellsEq _ _), sBin_agg .neq 135 _ _ _ (ceq135 _ _ _ _), hG, hm1, hm2]
  refine And.intro (flat135 _ _ _ _) (And.intro (flat135 _ _ _ _) ?_)
  refine hf _ (Sem.go (k := 1000) ?_)
  simp (decide := true) only [back_mk, backL_in, backL_row, backL_none, backL_nil, Nat.zero_add, Nat.reduceAdd]
  simp -dsimp (decide := true) (disch := first | omega | simp (decide := true) only [helrb0]) only [helrb1, ↓brun_b, envOf, reduceIte, Nat.reduceEqDiff, Nat.reduceAdd, Nat.reduceSub, Nat.reduceMul, Nat.reduceBEq, Nat.reduceLeDiff, Nat.reduceLT, Int.reduceToNat, rho]
  refine Sem.draw' (by kernel_rfl) (.one 0 (.one 1 (.one 2 (.one 3 (.one 4 (.one 5 (.alt 6 .done .non))))))) [1, 2] (by kernel_rfl) (fun G ff hG hf => ?_)
  simp (decide := true) only [helrb7, Nat.reduceAdd] at hG ⊢
  simp -dsimp (decide := true) (disch := first | omega | simp (decide := true) only [helrb0]) only [helrb1, ↓brun_b, envOf, reduceIte, Nat.reduceEqDiff, Nat.reduceAdd, Nat.reduceSub, Nat.reduceMul, Nat.reduceBEq, Nat.reduceLeDiff, Nat.reduceLT, Int.reduceToNat, rho, hG]
  refine OpSem.callw [1, 2] cal.f52 (hc) rfl rfl (by simp -dsimp (decide := true) (disch := first | omega | simp (decide := true) only [helrb0]) only [helrb8, ↓brun_b, envOf, reduceIte, Nat.reduceEqDiff, Nat.reduceAdd, Nat.reduceSub, Nat.reduceMul, Nat.reduceBEq, Nat.reduceLeDiff, Nat.reduceLT, Int.reduceToNat, rho, frz1, ↓reduceIte]) rfl (by simp -dsimp (decide := true) (disch := first | omega | simp (decide := true) only [helrb0]) only [helrb8, ↓brun_b, envOf, reduceIte, Nat.reduceEqDiff, Nat.reduceAdd, Nat.reduceSub, Nat.reduceMul, Nat.reduceBEq, Nat.reduceLeDiff, Nat.reduceLT, Int.reduceToNat, rho, frz1, ↓reduceIte]) (by simp -dsimp (decide := true) (disch := first | omega | simp (decide := true) only [helrb0]) only [helrb3, ↓brun_b, envOf, reduceIte, Nat.reduceEqDiff, Nat.reduceAdd, Nat.reduceSub, Nat.reduceMul, Nat.reduceBEq, Nat.reduceLeDiff, Nat.reduceLT, Int.reduceToNat]) ?_
  simp -dsimp (decide := true) (disch := first | omega | simp (decide := true) only [helrb0]) only [helrb1, ↓brun_b, envOf, reduceIte, Nat.reduceEqDiff, Nat.reduceAdd, Nat.reduceSub, Nat.reduceMul, Nat.reduceBEq, Nat.reduceLeDiff, Nat.reduceLT, Int.reduceToNat, rho, hG]
  refine hf _ (Sem.go (k := 1000) ?_)
  simp (decide := true) only [back_mk, backL_in, backL_row, backL_none, backL_nil, Nat.zero_add, Nat.reduceAdd]
  simp -dsimp (decide := true) (disch := first | omega | simp (decide := true) only [helrb0]) only [helrb1, ↓brun_b, envOf, reduceIte, Nat.reduceEqDiff, Nat.reduceAdd, Nat.reduceSub, Nat.reduceMul, Nat.reduceBEq, Nat.reduceLeDiff, Nat.reduceLT, Int.reduceToNat, rho]
  refine SQ.runL (rs := [.cell 6 162]) [0, 1, 2, 9] _ _ rfl (And.intro rfl rfl) (by decide) rfl rfl ?_ ?_
  · simp -dsimp (decide := true) (disch := first | omega | simp (decide := true) only [helrb0]) only [helrb4, ↓brun_b, envOf, reduceIte, Nat.reduceEqDiff, Nat.reduceAdd, Nat.reduceSub, Nat.reduceMul, Nat.reduceBEq, Nat.reduceLeDiff, Nat.reduceLT, Int.reduceToNat, rho, frz1, ↓reduceIte]
  · simp -dsimp (decide := true) (disch := first | omega | simp (decide := true) only [helrb0]) only [helrb4, ↓brun_b, envOf, reduceIte, Nat.reduceEqDiff, Nat.reduceAdd, Nat.reduceSub, Nat.reduceMul, Nat.reduceBEq, Nat.reduceLeDiff, Nat.reduceLT, Int.reduceToNat, rho, frz1, ↓reduceIte]
end Go.Proofs
namespace Go.Proofs
open Go Go.SL
set_option maxRecDepth 100000
def helrb9 :=
  (And.intro (And.intro (And.intro (And.intro helrc3 helrc2) (And.intro helrc4 helrc5)) (And.intro (And.intro helrc6 helrc7) (And.intro helrc8 helrc9))) (And.intro (And.intro (And.intro @fh_flat @fk_flat) (And.intro @hit210 @tab.a124)) (And.intro (And.intro @tab.a35 @tab.s124) (And.intro @tab.s35 (And.intro @tab.u124 @tab.u35)))))
theorem hear_data_no (F : Frm) (hk : F.kind = 2) (hl : F.tx.length ≤ 140737488355328) (id pid : I16) (op : Bool) (mi mn pi pn nxi nxn base got : Int) (ts : List (List UInt8))
    (hm : ((decide (F.ti = mi) && decide (F.tn = mn)) && (decide (F.fi = pi) && decide (F.fn = pn))) = false) :
    SCall Try.prog 106 [.ptr 0 0 0, .agg F.fc.c, .agg [.v (.int .i64 nxi), .v (.int .i64 nxn)]] [some (.row ⟨39, 1, false, 204, fun _ => EC.c ⟨id, .v (.bool true), .v (.bool op), .v (.int .i64 mi), .v (.int .i64 mn), .v (.int .i64 pi), .v (.int .i64 pn), pid, .ptr 1 0 0⟩⟩), some (.row ⟨3, 1, false, 197, fun _ => [.v (.int .i64 base), .slc 2 0 ts.length, .v (.int .i64 got)]⟩), some (.row ⟨1, ts.length, false, 35, trow ts⟩)]
      fun r L => r = .ret (.agg [.v (.bool false), .v (.bool false), .v (.slice none 0 0), .v (.bool false), .v (.slice none 0 0)]) ∧ L = [none, none, none] := by
  have ho := of_data F hk hl
  simp only [Frm.fc] at ho ⊢
  cases c1 : (decide (F.ti = mi) && decide (F.tn = mn))
  · refine SCall.mk (fn := Try.f106) (by kernel_rfl) rfl (Nat.le_of_ble_eq_true (by kernel_rfl)) ?_
    refine Sem.go (k := 1000) ?_
    simp -dsimp (decide := true) (disch := first | omega | simp (decide := true) only [helrb0]) only [helrb1, ↓brun_b, envOf, reduceIte, Nat.reduceEqDiff, Nat.reduceAdd, Nat.reduceSub, Nat.reduceMul, Nat.reduceBEq, Nat.reduceLeDiff, Nat.reduceLT, Int.reduceToNat, rho]
    refine SemOps.callq (k := 1000) cal.f119 (ho) rfl rfl rfl rfl (by simp only [bflat_a, helrb5]) (by simp only [bflat_a, helrb5]) (by simp -dsimp (decide := true) (disch := first | omega | simp (decide := true) only [helrb0]) only [helrb3, ↓brun_b, envOf, reduceIte, Nat.reduceEqDiff, Nat.reduceAdd, Nat.reduceSub, Nat.reduceMul, Nat.reduceBEq, Nat.reduceLeDiff, Nat.reduceLT, Int.reduceToNat]) ?_
    simp -dsimp (decide := true) (disch := first | omega | simp (decide := true) only [helrb0]) only [helrb9, ↓brun_b, envOf, reduceIte, Nat.reduceEqDiff, Nat.reduceAdd, Nat.reduceSub, Nat.reduceMul, Nat.reduceBEq, Nat.reduceLeDiff, Nat.reduceLT, Int.reduceToNat, rho, fun v => miss214 210 v (by decide)]
    refine Sem.draw' (by kernel_rfl) (.one 0 (.one 1 (.one 2 (.one 3 (.one 4 (.one 5 (.one 6 (.one 7 (.one 8 (.one 9 (.one 10 (.one 11 (.one 12 (.one 13 (.one 14 (.one 15 .done)))))))))))))))) [] (by kernel_rfl) (fun G ff hG hf => ?_)
    simp (decide := true) only [helrb7, Nat.reduceAdd] at hG ⊢
    simp -dsimp (decide := true) (disch := first | omega | simp (decide := true) only [helrb0]) only [helrb1, ↓brun_b, envOf, reduceIte, Nat.reduceEqDiff, Nat.reduceAdd, Nat.reduceSub, Nat.reduceMul, Nat.reduceBEq, Nat.reduceLeDiff, Nat.reduceLT, Int.reduceToNat, rho, sBin_agg .eql 23 _ _ _ (I16.cellsEq _ _), sBin_agg .eql 135 _ _ _ (ceq135 _ _ _ _), sBin_agg .eql 144 _ _ _ (ceq144 _ _ _ _), sBin_agg .eql 147 _ _ _ (ceq147 _ _ _ _), sBin_agg .neq 23 _ _ _ (I16.cellsEq _ _), sBin_agg .neq 135 _ _ _ (ceq135 _ _ _ _), hG, c1]
    refine And.intro (flat135 _ _ _ _) ?_
    refine hf _ (Sem.go (k := 1000) ?_)
    simp (decide := true) only [back_mk, backL_in, backL_row, backL_none, backL_nil, Nat.zero_add, Nat.reduceAdd]
    simp -dsimp (decide := true) (disch := first | omega | simp (decide := true) only [helrb0]) only [helrb1, ↓brun_b, envOf, reduceIte, Nat.reduceEqDiff, Nat.reduceAdd, Nat.reduceSub, Nat.reduceMul, Nat.reduceBEq, Nat.reduceLeDiff, Nat.reduceLT, Int.reduceToNat, rho]
    refine SQ.runL (rs := [.cell 6 162]) [0, 1, 2] _ _ rfl (And.intro rfl rfl) (by decide) rfl rfl ?_ ?_
    · simp -dsimp (decide := true) (disch := first | omega | simp (decide := true) only [helrb0]) only [helrb4, ↓brun_b, envOf, reduceIte, Nat.reduceEqDiff, Nat.reduceAdd, Nat.reduceSub, Nat.reduceMul, Nat.reduceBEq, Nat.reduceLeDiff, Nat.reduceLT, Int.reduceToNat, rho, frz1, ↓reduceIte]
    · simp -dsimp (decide := true) (disch := first | omega | simp (decide := true) only [helrb0]) only [helrb4, ↓brun_b, envOf, reduceIte, Nat.reduceEqDiff, Nat.reduceAdd, Nat.reduceSub, Nat.reduceMul, Nat.reduceBEq, Nat.reduceLeDiff, Nat.reduceLT, Int.reduceToNat, rho, frz1, ↓reduceIte]
  · rw [c1, Bool.true_and] at hm
    refine SCall.mk (fn := Try.f106) (by kernel_rfl) rfl (Nat.le_of_ble_eq_true (by kernel_rfl)) ?_
    refine Sem.go (k := 1000) ?_
    simp -dsimp (decide := true) (disch := first | omega | simp (decide := true) only [helrb0]) only [helrb1, ↓brun_b, envOf, reduceIte, Nat.reduceEqDiff, Nat.reduceAdd, Nat.reduceSub, Nat.reduceMul, Nat.reduceBEq, Nat.reduceLeDiff, Nat.reduceLT, Int.reduceToNat, rho]
    refine SemOps.callq (k := 1000) cal.f119 (ho) rfl rfl rfl rfl (by simp only [bflat_a, helrb5]) (by simp only [bflat_a, helrb5]) (by simp -dsimp (decide := true) (disch := first | omega | simp (decide := true) only [helrb0]) only [helrb3, ↓brun_b, envOf, reduceIte, Nat.reduceEqDiff, Nat.reduceAdd, Nat.reduceSub, Nat.reduceMul, Nat.reduceBEq, Nat.reduceLeDiff, Nat.reduceLT, Int.reduceToNat]) ?_
    simp -dsimp (decide := true) (disch := first | omega | simp (decide := true) only [helrb0]) only [helrb9, ↓brun_b, envOf, reduceIte, Nat.reduceEqDiff, Nat.reduceAdd, Nat.reduceSub, Nat.reduceMul, Nat.reduceBEq, Nat.reduceLeDiff, Nat.reduceLT, Int.reduceToNat, rho, fun v => miss214 210 v (by decide)]
    refine Sem.draw' (by kernel_rfl) (.one 0 (.one 1 (.one 2 (.one 3 (.one 4 (.one 5 (.one 6 (.one 7 (.one 8 (.one 9 (.one 10 (.one 11 (.one 12 (.one 13 (.one 14 (.one 15 .done)))))))))))))))) [] (by kernel_rfl) (fun G ff hG hf => ?_)
    simp (decide := true) only [helrb7, Nat.reduceAdd] at hG ⊢
    simp -dsimp (decide := true) (disch := first | omega | simp (decide := true) only [helrb0]) only [helrb1, ↓brun_b, envOf, reduceIte, Nat.reduceEqDiff, Nat.reduceAdd, Nat.reduceSub, Nat.reduceMul, Nat.reduceBEq, Nat.reduceLeDiff, Nat.reduceLT, Int.reduceToNat, rho, sBin_agg .eql 23 _ _ _ (I16.cellsEq _ _), sBin_agg .eql 135 _ _ _ (ceq135 _ _ _ _), sBin_agg .eql 144 _ _ _ (ceq144 _ _ _ _), sBin_agg .eql 147 _ _ _ (ceq147 _ _ _ _), sBin_agg .neq 23 _ _ _ (I16.cellsEq _ _), sBin_agg .neq 135 _ _ _ (ceq135 _ _ _ _), hG, c1, hm]
    refine And.intro (flat135 _ _ _ _) (And.intro (flat135 _ _ _ _) ?_)
    refine hf _ (Sem.go (k := 1000) ?_)
    simp (decide := true) only [back_mk, backL_in, backL_row, backL_none, backL_nil, Nat.zero_add, Nat.reduceAdd]
    simp -dsimp (decide := true) (disch := first | omega | simp (decide := true) only [helrb0]) only [helrb1, ↓brun_b, envOf, reduceIte, Nat.reduceEqDiff, Nat.reduceAdd, Nat.reduceSub, Nat.reduceMul, Nat.reduceBEq, Nat.reduceLeDiff, Nat.reduceLT, Int.reduceToNat, rho]
    refine SQ.runL (rs := [.cell 6 162]) [0, 1, 2] _ _ rfl (And.intro rfl rfl) (by decide) rfl rfl ?_ ?_
    · simp -dsimp (decide := true) (disch := first | omega | simp (decide := true) only [helrb0]) only [helrb4, ↓brun_b, envOf, reduceIte, Nat.reduceEqDiff, Nat.reduceAdd, Nat.reduceSub, Nat.reduceMul, Nat.reduceBEq, Nat.reduceLeDiff, Nat.reduceLT, Int.reduceToNat, rho, frz1, ↓reduceIte]
    · simp -dsimp (decide := true) (disch := first | omega | simp (decide := true) only [helrb0]) only [helrb4, ↓brun_b, envOf, reduceIte, Nat.reduceEqDiff, Nat.reduceAdd, Nat.reduceSub, Nat.reduceMul, Nat.reduceBEq, Nat.reduceLeDiff, Nat.reduceLT, Int.reduceToNat, rho, frz1, ↓reduceIte]
end Go.Proofs
namespace Go.Proofs
open Go Go.SL
set_option maxRecDepth 100000
theorem bl210b (fi fn ti tn n : Int) (rows : List (List SV)) : sBuild Try.prog 210 [(0, .agg [.v (.int .i64 fi), .v (.int .i64 fn)]), (1, .agg [.v (.int .i64 ti), .v (.int .i64 tn)]), (2, .v (.int .i64 n)), (3, .rsl 1 rows)] = some ⟨.agg [.v (.int .i64 fi), .v (.int .i64 fn), .v (.int .i64 ti), .v (.int .i64 tn), .v (.int .i64 n), .rsl 1 rows], {}, True⟩ := by
  rw [sBuild_eq, tab.z210, tab.l210]; rfl
theorem fd_flat (mi mn pi pn n : Int) (tx : List UInt8) : SV.flatL (FC.c { zF with kind := .v (.int .i64 2), fi := .v (.int .i64 mi), fn := .v (.int .i64 mn), ti := .v (.int .i64 pi), tn := .v (.int .i64 pn), n := .v (.int .i64 n), tx := bsl tx }) = true := by simp [FC.flat_eq, zF, flat_v, flat_rsl, flatR_brows]
end Go.Proofs
namespace Go.Proofs
open Go Go.SL
set_option maxRecDepth 100000
def helrb10 :=
  (And.intro (And.intro (And.intro helrc0 helrc1) (And.intro helrc2 (And.intro @IC.c_length @fd_flat))) (And.intro (And.intro @fh_flat @fk_flat) (And.intro @frm_flat (And.intro @idrs_len @lrows_length))))
def helrb11 :=
  (And.intro (And.intro helrc3 (And.intro helrc2 helrc5)) (And.intro helrc6 (And.intro @fh_flat @fk_flat)))
def helrb12 :=
  (And.intro (And.intro (And.intro helrc3 helrc2) (And.intro helrc5 (And.intro helrc6 @bwk_a))) (And.intro (And.intro @eq_self.{1} (And.intro @fh_flat @fk_flat)) (And.intro @forall_const.{1} (And.intro @implies_true.{0} @implies_true.{1}))))
theorem pair_calls (id pid : I16) (up op : Bool) (mi mn pi pn base got : Int) (ts : List (List UInt8)) :
    SCall Try.prog 109 [.ptr 0 0 0] [some (.row ⟨39, 1, false, 204, fun _ => EC.c ⟨id, .v (.bool up), .v (.bool op), .v (.int .i64 mi), .v (.int .i64 mn), .v (.int .i64 pi), .v (.int .i64 pn), pid, .ptr 1 0 0⟩⟩), some (.row ⟨3, 1, false, 197, fun _ => [.v (.int .i64 base),   .slc 2 0 ts.length, .v (.int .i64 got)]⟩), some (.row ⟨1, ts.length, false, 35, trow ts⟩)]
      fun r L => r = .ret (.tup [.agg [.v (.int .i64 mi), .v (.int .i64 mn)], .agg [.v (.int .i64 pi), .v (.int .i64 pn)]]) ∧ L = [none, none, none] := by
  refine SCall.mk (fn := Try.f109) (by kernel_rfl) rfl (Nat.le_of_ble_eq_true (by kernel_rfl)) ?_
  refine Sem.go (k := 1000) ?_
  simp -dsimp (decide := true) (disch := first | omega | simp (decide := true) only [helrb10]) only [helrb11, ↓brun_b, envOf, reduceIte, Nat.reduceEqDiff, Nat.reduceAdd, Nat.reduceSub, Nat.reduceMul, Nat.reduceBEq, Nat.reduceLeDiff, Nat.reduceLT, Int.reduceToNat, rho]
  refine Sem.draw' (by kernel_rfl) (.one 0 (.one 1 (.one 2 (.one 3 (.one 4 (.one 5 (.one 6 (.one 7 (.alt 8 (.alt 9 .done .non) .non))))))))) [3, 4] (by kernel_rfl) (fun G ff hG hf => ?_)
  simp (decide := true) only [helrb7, Nat.reduceAdd] at hG ⊢
  simp -dsimp (decide := true) (disch := first | omega | simp (decide := true) only [helrb10]) only [helrb11, ↓brun_b, envOf, reduceIte, Nat.reduceEqDiff, Nat.reduceAdd, Nat.reduceSub, Nat.reduceMul, Nat.reduceBEq, Nat.reduceLeDiff, Nat.reduceLT, Int.reduceToNat, rho, hG]
  refine hf _ (Sem.go (k := 1000) ?_)
  simp (decide := true) only [back_mk, backL_in, backL_row, backL_none, backL_nil, Nat.zero_add, Nat.reduceAdd]
  simp -dsimp (decide := true) (disch := first | omega | simp (decide := true) only [helrb10]) only [helrb11, ↓brun_b, envOf, reduceIte, Nat.reduceEqDiff, Nat.reduceAdd, Nat.reduceSub, Nat.reduceMul, Nat.reduceBEq, Nat.reduceLeDiff, Nat.reduceLT, Int.reduceToNat, rho]
  refine SQ.runL (rs := [.cell 2 135, .cell 3 135]) [0, 1, 2] _ _ rfl (And.intro rfl rfl) (by decide) rfl rfl ?_ ?_
  · simp -dsimp (decide := true) (disch := first | omega | simp (decide := true) only [helrb10]) only [helrb12, ↓brun_b, envOf, reduceIte, Nat.reduceEqDiff, Nat.reduceAdd, Nat.reduceSub, Nat.reduceMul, Nat.reduceBEq, Nat.reduceLeDiff, Nat.reduceLT, Int.reduceToNat, rho, frz1, ↓reduceIte]
  · simp -dsimp (decide := true) (disch := first | omega | simp (decide := true) only [helrb10]) only [helrb12, ↓brun_b, envOf, reduceIte, Nat.reduceEqDiff, Nat.reduceAdd, Nat.reduceSub, Nat.reduceMul, Nat.reduceBEq, Nat.reduceLeDiff, Nat.reduceLT, Int.reduceToNat, rho, frz1, ↓reduceIte]
def helrb13 :=
  (And.intro helrc5 helrc6)
theorem window_calls (id pid : I16) (up op : Bool) (mi mn pi pn base got : Int) (ts : List (List UInt8)) (h1 : ts.length * 24 ≤ 140737488355328) (h2 : ∀ t ∈ ts, t.length ≤ 140737488355328) :
    SCall Try.prog 111 [.ptr 0 0 0] [some (.row ⟨39, 1, false, 204, fun _ => EC.c ⟨id, .v (.bool up), .v (.bool op), .v (.int .i64 mi), .v (.int .i64 mn), .v (.int .i64 pi), .v (.int .i64 pn), pid, .ptr 1 0 0⟩⟩), some (.row ⟨3, 1, false, 197, fun _ => [.v (.int .i64 base),   .slc 2 0 ts.length, .v (.int .i64 got)]⟩), some (.row ⟨1, ts.length, false, 35, trow ts⟩)]
      fun r L => r = .ret (.tup [.v (.int .i64 base), .rsl 1 (trows ts), .v (.int .i64 got)]) ∧ L = [none, none, none] := by
  refine SCall.mk (fn := Try.f111) (by kernel_rfl) rfl (Nat.le_of_ble_eq_true (by kernel_rfl)) ?_
  refine Sem.go (k := 1000) ?_
  simp -dsimp (decide := true) (disch := first | omega | simp (decide := true) only [helrb10]) only [helrb11, ↓brun_b, envOf, reduceIte, Nat.reduceEqDiff, Nat.reduceAdd, Nat.reduceSub, Nat.reduceMul, Nat.reduceBEq, Nat.reduceLeDiff, Nat.reduceLT, Int.reduceToNat, rho]
  refine SemOps.callw [1, 2] cal.f56 (waits_calls base got ts h1 h2) rfl rfl rfl (by simp -dsimp (decide := true) (disch := first | omega | simp (decide := true) only [helrb10]) only [helrb12, ↓brun_b, envOf, reduceIte, Nat.reduceEqDiff, Nat.reduceAdd, Nat.reduceSub, Nat.reduceMul, Nat.reduceBEq, Nat.reduceLeDiff, Nat.reduceLT, Int.reduceToNat, rho, frz1, ↓reduceIte]) rfl (by simp -dsimp (decide := true) (disch := first | omega | simp (decide := true) only [helrb10]) only [helrb12, ↓brun_b, envOf, reduceIte, Nat.reduceEqDiff, Nat.reduceAdd, Nat.reduceSub, Nat.reduceMul, Nat.reduceBEq, Nat.reduceLeDiff, Nat.reduceLT, Int.reduceToNat, rho, frz1, ↓reduceIte]) (by simp -dsimp (decide := true) (disch := first | omega | simp (decide := true) only [helrb10]) only [helrb13, ↓brun_b, envOf, reduceIte, Nat.reduceEqDiff, Nat.reduceAdd, Nat.reduceSub, Nat.reduceMul, Nat.reduceBEq, Nat.reduceLeDiff, Nat.reduceLT, Int.reduceToNat]) ?_
  refine SemOps.go (k := 1000) ?_
  simp -dsimp (decide := true) (disch := first | omega | simp (decide := true) only [helrb10]) only [helrb11, ↓brun_b, envOf, reduceIte, Nat.reduceEqDiff, Nat.reduceAdd, Nat.reduceSub, Nat.reduceMul, Nat.reduceBEq, Nat.reduceLeDiff, Nat.reduceLT, Int.reduceToNat, rho]
  refine SemOps.callw [1, 2] cal.f59 (got_calls base got ts.length (trow ts)) rfl rfl rfl (by simp -dsimp (decide := true) (disch := first | omega | simp (decide := true) only [helrb10]) only [helrb12, ↓brun_b, envOf, reduceIte, Nat.reduceEqDiff, Nat.reduceAdd, Nat.reduceSub, Nat.reduceMul, Nat.reduceBEq, Nat.reduceLeDiff, Nat.reduceLT, Int.reduceToNat, rho, frz1, ↓reduceIte]) rfl (by simp -dsimp (decide := true) (disch := first | omega | simp (decide := true) only [helrb10]) only [helrb12, ↓brun_b, envOf, reduceIte, Nat.reduceEqDiff, Nat.reduceAdd, Nat.reduceSub, Nat.reduceMul, Nat.reduceBEq, Nat.reduceLeDiff, Nat.reduceLT, Int.reduceToNat, rho, frz1, ↓reduceIte]) (by simp -dsimp (decide := true) (disch := first | omega | simp (decide := true) only [helrb10]) only [helrb13, ↓brun_b, envOf, reduceIte, Nat.reduceEqDiff, Nat.reduceAdd, Nat.reduceSub, Nat.reduceMul, Nat.reduceBEq, Nat.reduceLeDiff, Nat.reduceLT, Int.reduceToNat]) ?_
  refine SemOps.go (k := 1000) ?_
  simp -dsimp (decide := true) (disch := first | omega | simp (decide := true) only [helrb10]) only [helrb11, ↓brun_b, envOf, reduceIte, Nat.reduceEqDiff, Nat.reduceAdd, Nat.reduceSub, Nat.reduceMul, Nat.reduceBEq, Nat.reduceLeDiff, Nat.reduceLT, Int.reduceToNat, rho]
  refine SQ.runL (rs := [.tmp 2, .tmp 3, .tmp 4]) [0, 1, 2] _ _ rfl (And.intro rfl rfl) (by decide) rfl rfl ?_ ?_
  · simp -dsimp (decide := true) (disch := first | omega | simp (decide := true) only [helrb10]) only [helrb12, ↓brun_b, envOf, reduceIte, Nat.reduceEqDiff, Nat.reduceAdd, Nat.reduceSub, Nat.reduceMul, Nat.reduceBEq, Nat.reduceLeDiff, Nat.reduceLT, Int.reduceToNat, rho, frz1, ↓reduceIte]
  · simp -dsimp (decide := true) (disch := first | omega | simp (decide := true) only [helrb10]) only [helrb12, ↓brun_b, envOf, reduceIte, Nat.reduceEqDiff, Nat.reduceAdd, Nat.reduceSub, Nat.reduceMul, Nat.reduceBEq, Nat.reduceLeDiff, Nat.reduceLT, Int.reduceToNat, rho, frz1, ↓reduceIte]
def helrb14 :=
  (And.intro (And.intro (And.intro helrc3 (And.intro helrc2 helrc5)) (And.intro helrc6 (And.intro @fh_flat @fk_flat))) (And.intro (And.intro @tab.a35 (And.intro @tab.a44 @tab.s35)) (And.intro @tab.s44 (And.intro @tab.u35 @tab.u44))))
def helrb15 :=
  (And.intro (And.intro (And.intro (And.intro helrc3 helrc2) (And.intro helrc5 helrc6)) (And.intro (And.intro @bwk_a @eq_self.{1}) (And.intro @fh_flat @fk_flat))) (And.intro (And.intro (And.intro @forall_const.{1} @implies_true.{0}) (And.intro @implies_true.{1} @tab.a35)) (And.intro (And.intro @tab.a44 @tab.s35) (And.intro @tab.s44 (And.intro @tab.u35 @tab.u44)))))
def helrb16 :=
  (And.intro (And.intro (And.intro helrc5 helrc6) (And.intro @tab.a35 @tab.a44)) (And.intro (And.intro @tab.s35 @tab.s44) (And.intro @tab.u35 @tab.u44)))
theorem waiting_calls (id pid : I16) (up op : Bool) (mi mn pi pn base got : Int) (ts : List (List UInt8)) (h1 : ts.length * 24 ≤ 140737488355328) (h2 : ∀ t ∈ ts, t.length ≤ 140737488355328) :
    SCall Try.prog 112 [.ptr 0 0 0] [some (.row ⟨39, 1, false, 204, fun _ => EC.c ⟨id, .v (.bool up), .v (.bool op), .v (.int .i64 mi), .v (.int .i64 mn), .v (.int .i64 pi), .v (.int .i64 pn), pid, .ptr 1 0 0⟩⟩), some (.row ⟨3, 1, false, 197, fun _ => [.v (.int .i64 base),   .slc 2 0 ts.length, .v (.int .i64 got)]⟩), some (.row ⟨1, ts.length, false, 35, trow ts⟩)]
      fun r L => r = .ret (.v (.int .i64 (ts.length : Int))) ∧ L = [none, none, none] := by
  have hl : (trows ts).length = ts.length := trows_length ts
  refine SCall.mk (fn := Try.f112) (by kernel_rfl) rfl (Nat.le_of_ble_eq_true (by kernel_rfl)) ?_
  refine Sem.go (k := 1000) ?_
  simp -dsimp (decide := true) (disch := first | omega | simp (decide := true) only [helrb10]) only [helrb14, ↓brun_b, envOf, reduceIte, Nat.reduceEqDiff, Nat.reduceAdd, Nat.reduceSub, Nat.reduceMul, Nat.reduceBEq, Nat.reduceLeDiff, Nat.reduceLT, Int.reduceToNat, rho]
  refine SemOps.callw [1, 2] cal.f56 (waits_calls base got ts h1 h2) rfl rfl rfl (by simp -dsimp (decide := true) (disch := first | omega | simp (decide := true) only [helrb10]) only [helrb15, ↓brun_b, envOf, reduceIte, Nat.reduceEqDiff, Nat.reduceAdd, Nat.reduceSub, Nat.reduceMul, Nat.reduceBEq, Nat.reduceLeDiff, Nat.reduceLT, Int.reduceToNat, rho, frz1, ↓reduceIte]) rfl (by simp -dsimp (decide := true) (disch := first | omega | simp (decide := true) only [helrb10]) only [helrb15, ↓brun_b, envOf, reduceIte, Nat.reduceEqDiff, Nat.reduceAdd, Nat.reduceSub, Nat.reduceMul, Nat.reduceBEq, Nat.reduceLeDiff, Nat.reduceLT, Int.reduceToNat, rho, frz1, ↓reduceIte]) (by simp -dsimp (decide := true) (disch := first | omega | simp (decide := true) only [helrb10]) only [helrb16, ↓brun_b, envOf, reduceIte, Nat.reduceEqDiff, Nat.reduceAdd, Nat.reduceSub, Nat.reduceMul, Nat.reduceBEq, Nat.reduceLeDiff, Nat.reduceLT, Int.reduceToNat]) ?_
  refine SemOps.go (k := 1000) ?_
  simp -dsimp (decide := true) (disch := first | omega | simp (decide := true) only [helrb10]) only [helrb14, ↓brun_b, envOf, reduceIte, Nat.reduceEqDiff, Nat.reduceAdd, Nat.reduceSub, Nat.reduceMul, Nat.reduceBEq, Nat.reduceLeDiff, Nat.reduceLT, Int.reduceToNat, rho, hl]
  refine SQ.runL (rs := [.tmp 2]) [0, 1, 2] _ _ rfl (And.intro rfl rfl) (by decide) rfl rfl ?_ ?_
  · simp -dsimp (decide := true) (disch := first | omega | simp (decide := true) only [helrb10]) only [helrb15, ↓brun_b, envOf, reduceIte, Nat.reduceEqDiff, Nat.reduceAdd, Nat.reduceSub, Nat.reduceMul, Nat.reduceBEq, Nat.reduceLeDiff, Nat.reduceLT, Int.reduceToNat, rho, hl, frz1, ↓reduceIte]
  · simp -dsimp (decide := true) (disch := first | omega | simp (decide := true) only [helrb10]) only [helrb15, ↓brun_b, envOf, reduceIte, Nat.reduceEqDiff, Nat.reduceAdd, Nat.reduceSub, Nat.reduceMul, Nat.reduceBEq, Nat.reduceLeDiff, Nat.reduceLT, Int.reduceToNat, rho, hl, frz1, ↓reduceIte]
def helrb17 :=
  (And.intro (And.intro (And.intro (And.intro helrc3 helrc2) (And.intro helrc5 helrc6)) (And.intro (And.intro helrc7 helrc9) (And.intro @fh_flat @fk_flat))) (And.intro (And.intro (And.intro @tab.a124 @tab.a35) (And.intro @tab.a44 @tab.s124)) (And.intro (And.intro @tab.s35 @tab.s44) (And.intro @tab.u124 (And.intro @tab.u35 @tab.u44)))))
def helrb18 :=
  (And.intro (And.intro (And.intro (And.intro helrc3 helrc2) (And.intro helrc5 (And.intro helrc6 helrc7))) (And.intro (And.intro helrc9 (And.intro @bwk_a @eq_self.{1})) (And.intro @fh_flat (And.intro @fk_flat @forall_const.{1})))) (And.intro (And.intro (And.intro @implies_true.{0} @implies_true.{1}) (And.intro @tab.a124 (And.intro @tab.a35 @tab.a44))) (And.intro (And.intro @tab.s124 (And.intro @tab.s35 @tab.s44)) (And.intro @tab.u124 (And.intro @tab.u35 @tab.u44)))))
def helrb19 :=
  (And.intro (And.intro (And.intro helrc5 (And.intro helrc6 helrc7)) (And.intro helrc9 (And.intro @tab.a124 @tab.a35))) (And.intro (And.intro @tab.a44 (And.intro @tab.s124 @tab.s35)) (And.intro (And.intro @tab.s44 @tab.u124) (And.intro @tab.u35 @tab.u44))))
def helrb20 :=
  (And.intro (And.intro (And.intro (And.intro helrc3 helrc2) (And.intro helrc5 helrc6)) (And.intro (And.intro helrc7 helrc9) (And.intro @bs124 (And.intro @fh_flat @fk_flat)))) (And.intro (And.intro (And.intro @tab.a124 @tab.a35) (And.intro @tab.a44 @tab.s124)) (And.intro (And.intro @tab.s35 @tab.s44) (And.intro @tab.u124 (And.intro @tab.u35 @tab.u44)))))
theorem tickHi_calls (id pid : I16) (mi mn pi pn base got : Int) (ts : List (List UInt8)) :
    SCall Try.prog 100 [.ptr 0 0 0] [some (.row ⟨39, 1, false, 204, fun _ => EC.c ⟨id, .v (.bool true), .v (.bool false), .v (.int .i64 mi), .v (.int .i64 mn), .v (.int .i64 pi), .v (.int .i64 pn), pid, .ptr 1 0 0⟩⟩), some (.row ⟨3, 1, false, 197, fun _ => [.v (.int .i64 base), .slc 2 0 ts.length, .v (.int .i64 got)]⟩), some (.row ⟨1, ts.length, false, 35, trow ts⟩)]
      fun r L => r = .ret (.slc 3 0 1) ∧ L = [none, none, none, some (.row ⟨95, 1, true, 151, fun _ => FC.c { zF with kind := .v (.int .i64 1), fi := .v (.int .i64 mi), fn := .v (.int .i64 mn), ti := .v (.int .i64 pi), tn := .v (.int .i64 pn), a := id }⟩)] := by
  refine SCall.mk (fn := Try.f100) (by kernel_rfl) rfl (Nat.le_of_ble_eq_true (by kernel_rfl)) ?_
  refine Sem.go (k := 1000) ?_
  simp -dsimp (decide := true) (disch := first | omega | simp (decide := true) only [helrb10]) only [helrb17, ↓brun_b, envOf, reduceIte, Nat.reduceEqDiff, Nat.reduceAdd, Nat.reduceSub, Nat.reduceMul, Nat.reduceBEq, Nat.reduceLeDiff, Nat.reduceLT, Int.reduceToNat, rho]
  refine SemOps.callw [0, 1, 2] cal.f136 (hello_calls id pid true false mi mn pi pn base got ts) rfl rfl rfl (by simp -dsimp (decide := true) (disch := first | omega | simp (decide := true) only [helrb10]) only [helrb18, ↓brun_b, envOf, reduceIte, Nat.reduceEqDiff, Nat.reduceAdd, Nat.reduceSub, Nat.reduceMul, Nat.reduceBEq, Nat.reduceLeDiff, Nat.reduceLT, Int.reduceToNat, rho, frz1, ↓reduceIte]) rfl (by simp -dsimp (decide := true) (disch := first | omega | simp (decide := true) only [helrb10]) only [helrb18, ↓brun_b, envOf, reduceIte, Nat.reduceEqDiff, Nat.reduceAdd, Nat.reduceSub, Nat.reduceMul, Nat.reduceBEq, Nat.reduceLeDiff, Nat.reduceLT, Int.reduceToNat, rho, frz1, ↓reduceIte]) (by simp -dsimp (decide := true) (disch := first | omega | simp (decide := true) only [helrb10]) only [helrb19, ↓brun_b, envOf, reduceIte, Nat.reduceEqDiff, Nat.reduceAdd, Nat.reduceSub, Nat.reduceMul, Nat.reduceBEq, Nat.reduceLeDiff, Nat.reduceLT, Int.reduceToNat]) ?_
  refine SemOps.go (k := 1000) ?_
  simp -dsimp (decide := true) (disch := first | omega | simp (decide := true) only [helrb10]) only [helrb20, ↓brun_b, envOf, reduceIte, Nat.reduceEqDiff, Nat.reduceAdd, Nat.reduceSub, Nat.reduceMul, Nat.reduceBEq, Nat.reduceLeDiff, Nat.reduceLT, Int.reduceToNat, rho]
  refine SQ.runL (rs := [.tmp 2]) [0, 1, 2, 3] _ _ rfl (And.intro rfl rfl) (by decide) rfl rfl ?_ ?_
  · simp -dsimp (decide := true) (disch := first | omega | simp (decide := true) only [helrb10]) only [helrb18, ↓brun_b, envOf, reduceIte, Nat.reduceEqDiff, Nat.reduceAdd, Nat.reduceSub, Nat.reduceMul, Nat.reduceBEq, Nat.reduceLeDiff, Nat.reduceLT, Int.reduceToNat, rho, frz1, ↓reduceIte]
    exact fun e he => one124 _ e he (fh_flat _ _ _ _ _)
  · simp -dsimp (decide := true) (disch := first | omega | simp (decide := true) only [helrb10]) only [helrb18, ↓brun_b, envOf, reduceIte, Nat.reduceEqDiff, Nat.reduceAdd, Nat.reduceSub, Nat.reduceMul, Nat.reduceBEq, Nat.reduceLeDiff, Nat.reduceLT, Int.reduceToNat, rho, frz1, ↓reduceIte]
end Go.Proofs
namespace Go.SL
open Go
theorem trowsAt (ts : List (List UInt8)) (k : Nat) (h : k < ts.length) : (trows ts).getD k [] = trow ts k := by
  simp [trows, trow, List.getD_eq_getElem?_getD, List.getElem?_eq_getElem h]
end Go.SL
namespace Go.Proofs
open Go Go.SL
set_option maxRecDepth 100000
def dfam (mi mn pi pn : Int) (base : Nat) (ts : List (List UInt8)) (e : Nat) : List SV := FC.c { zF with kind := .v (.int .i64 2), fi := .v (.int .i64 mi), fn := .v (.int .i64 mn), ti := .v (.int .i64 pi), tn := .v (.int .i64 pn), n := .v (.int .i64 ((base + e : Nat) : Int)), tx := bsl (ts.getD e []) }
theorem dfam_flat (mi mn pi pn : Int) (base : Nat) (ts : List (List UInt8)) (e : Nat) : SV.flatL (dfam mi mn pi pn base ts e) = true := fd_flat _ _ _ _ _ _
theorem app_dfam {fz : Nat → Option SB} {ρ : Nat → Nat} (mi mn pi pn : Int) (base : Nat) (ts : List (List UInt8)) (k e : Nat) (he : e < k + 1) :
    EntL fz ρ (dfam mi mn pi pn base ts e) (if e < k then dfam mi mn pi pn base ts e else ((dfam mi mn pi pn base ts k).drop ((e - k) * 95)).take 95) := by
  by_cases h : e < k
  · rw [if_pos h]; exact EntL.self (dfam_flat _ _ _ _ _ _ _)
  · obtain rfl : e = k := by omega
    rw [if_neg h, Nat.sub_self, Nat.zero_mul, List.drop_zero, List.take_of_length_le (by unfold dfam; rw [FC.c_length]; exact Nat.le_refl _)]
    exact EntL.self (dfam_flat _ _ _ _ _ _ _)
def helrb21 :=
  (And.intro (And.intro (And.intro helrc0 helrc1) (And.intro helrc2 (And.intro @IC.c_length @dfam_flat))) (And.intro (And.intro @fd_flat (And.intro @fh_flat @fk_flat)) (And.intro @frm_flat (And.intro @idrs_len @lrows_length))))
def helrb22 :=
  (And.intro (And.intro (And.intro (And.intro helrc3 helrc2) (And.intro helrc5 helrc6)) (And.intro (And.intro helrc7 helrc9) (And.intro @bl210b (And.intro @fh_flat @fk_flat)))) (And.intro (And.intro (And.intro @tab.a124 @tab.a35) (And.intro @tab.a44 @tab.s124)) (And.intro (And.intro @tab.s35 @tab.s44) (And.intro @tab.u124 (And.intro @tab.u35 @tab.u44)))))
def helrb23 :=
  (And.intro (And.intro helrc1 (And.intro @dfam_flat @fd_flat)) (And.intro @fh_flat (And.intro @fk_flat @frm_flat)))
theorem tickOpen_calls (id pid : I16) (mi mn pi pn got : Int) (base : Nat) (ts : List (List UInt8)) (h0 : base + ts.length < 4611686018427387904) (h1 : ts.length * 264 ≤ 140737488355328) (h2 : ∀ t ∈ ts, t.length ≤ 140737488355328) :
    SCall Try.prog 100 [.ptr 0 0 0] [some (.row ⟨39, 1, false, 204, fun _ => EC.c ⟨id, .v (.bool true), .v (.bool true), .v (.int .i64 mi), .v (.int .i64 mn), .v (.int .i64 pi), .v (.int .i64 pn), pid, .ptr 1 0 0⟩⟩), some (.row ⟨3, 1, false, 197, fun _ => [.v (.int .i64 (base : Int)), .slc 2 0 ts.length, .v (.int .i64 got)]⟩), some (.row ⟨1, ts.length, false, 35, trow ts⟩)]
      fun r L => r = .ret (.slc 3 0 ts.length) ∧ L = [none, none, none, some (.row ⟨95, ts.length, true, 151, dfam mi mn pi pn base ts⟩)] := by
  have hl : (trows ts).length = ts.length := trows_length ts
  refine SCall.mk (fn := Try.f100) (by kernel_rfl) rfl (Nat.le_of_ble_eq_true (by kernel_rfl)) ?_
  refine Sem.go (k := 1000) ?_
  simp -dsimp (decide := true) (disch := first | omega | simp (decide := true) only [helrb21]) only [helrb17, ↓brun_b, envOf, reduceIte, Nat.reduceEqDiff, Nat.reduceAdd, Nat.reduceSub, Nat.reduceMul, Nat.reduceBEq, Nat.reduceLeDiff, Nat.reduceLT, Int.reduceToNat, rho]
  refine SemOps.callw [1, 2] cal.f56 (waits_calls base got ts (by omega) h2) rfl rfl rfl (by simp -dsimp (decide := true) (disch := first | omega | simp (decide := true) only [helrb21]) only [helrb18, ↓brun_b, envOf, reduceIte, Nat.reduceEqDiff, Nat.reduceAdd, Nat.reduceSub, Nat.reduceMul, Nat.reduceBEq, Nat.reduceLeDiff, Nat.reduceLT, Int.reduceToNat, rho, frz1, ↓reduceIte]) rfl (by simp -dsimp (decide := true) (disch := first | omega | simp (decide := true) only [helrb21]) only [helrb18, ↓brun_b, envOf, reduceIte, Nat.reduceEqDiff, Nat.reduceAdd, Nat.reduceSub, Nat.reduceMul, Nat.reduceBEq, Nat.reduceLeDiff, Nat.reduceLT, Int.reduceToNat, rho, frz1, ↓reduceIte]) (by simp -dsimp (decide := true) (disch := first | omega | simp (decide := true) only [helrb21]) only [helrb19, ↓brun_b, envOf, reduceIte, Nat.reduceEqDiff, Nat.reduceAdd, Nat.reduceSub, Nat.reduceMul, Nat.reduceBEq, Nat.reduceLeDiff, Nat.reduceLT, Int.reduceToNat]) ?_
  refine SemOps.go (k := 1000) ?_
  simp -dsimp (decide := true) (disch := first | omega | simp (decide := true) only [helrb21]) only [helrb17, ↓brun_b, envOf, reduceIte, Nat.reduceEqDiff, Nat.reduceAdd, Nat.reduceSub, Nat.reduceMul, Nat.reduceBEq, Nat.reduceLeDiff, Nat.reduceLT, Int.reduceToNat, rho, hl]
  refine Sem.ghost 3 95 151 rfl ?_
  refine Sem.loop (ι := {k : Nat // k ≤ ts.length}) (fun k => ⟨62, 3, [(0, .ptr 0 0 0), (3, .slc 3 0 k.1), (4, .v (.int .i64 (base : Int))), (35, .rsl 1 (trows ts)), (36, .v (.int .i64 (ts.length : Int))), (37, .v (.int .i64 (k.1 : Int)))], [some (.row ⟨39, 1, false, 204, fun _ => EC.c ⟨id, .v (.bool true), .v (.bool true), .v (.int .i64 mi), .v (.int .i64 mn), .v (.int .i64 pi), .v (.int .i64 pn), pid, .ptr 1 0 0⟩⟩), some (.row ⟨3, 1, false, 197, fun _ => [.v (.int .i64 (base : Int)), .slc 2 0 ts.length, .v (.int .i64 got)]⟩), some (.row ⟨1, ts.length, false, 35, trow ts⟩), some (.row ⟨95, k.1, true, 151, dfam mi mn pi pn base ts⟩)]⟩) (fun k => ts.length - k.1) ⟨0, by omega⟩ [0, 1, 2, 3] ?_ ?_
  · (refine Wk.ofC ?_; simp -dsimp (decide := true) (disch := first | omega | simp (decide := true) only [helrb21]) only [helrb18, ↓brun_b, envOf, reduceIte, Nat.reduceEqDiff, Nat.reduceAdd, Nat.reduceSub, Nat.reduceMul, Nat.reduceBEq, Nat.reduceLeDiff, Nat.reduceLT, Int.reduceToNat, rho, frz1, ↓reduceIte])
  · rintro ⟨k, hk⟩
    refine Sem.go (k := 1000) ?_
    simp -dsimp (decide := true) (disch := first | omega | simp (decide := true) only [helrb21]) only [helrb17, ↓brun_b, envOf, reduceIte, Nat.reduceEqDiff, Nat.reduceAdd, Nat.reduceSub, Nat.reduceMul, Nat.reduceBEq, Nat.reduceLeDiff, Nat.reduceLT, Int.reduceToNat, rho]
    refine SCond.split (fun h3 => ?_) (fun h3 => ?_)
    · simp only [decide_eq_true_eq] at h3
      have hk' : k < ts.length := by omega
      have hw1 : IntKind.i64.wrap ((base : Int) + (k : Int)) = ((base + k : Nat) : Int) := by rw [wrap_i64 _ (by omega)]; rfl
      have hw2 : IntKind.i64.wrap ((k : Int) + 1) = ((k + 1 : Nat) : Int) := by rw [wrap_i64 _ (by omega)]; rfl
      have ht : (ts.getD k []).length ≤ 140737488355328 := h2 _ (by rw [List.getD_eq_getElem?_getD, List.getElem?_eq_getElem hk', Option.getD_some]; exact List.getElem_mem hk')
      simp -dsimp (decide := true) (disch := first | omega | simp (decide := true) only [helrb21]) only [helrb17, ↓brun_b, envOf, reduceIte, Nat.reduceEqDiff, Nat.reduceAdd, Nat.reduceSub, Nat.reduceMul, Nat.reduceBEq, Nat.reduceLeDiff, Nat.reduceLT, Int.reduceToNat, rho, trowsAt _ _ hk', hl]
      refine And.intro (by omega) ?_
      refine Sem.draw' (by kernel_rfl) (.one 0 (.one 1 (.one 2 (.one 3 (.one 4 (.one 5 (.one 6 (.one 7 (.one 8 (.one 9 (.one 10 (.one 11 (.one 12 (.one 13 (.one 14 (.alt 15 (.alt 16 (.alt 17 (.one 18 .done) .non) .non) .non)))))))))))))))) [3] (by kernel_rfl) (fun G ff hG hf => ?_)
      simp (decide := true) only [helrb7, Nat.reduceAdd] at hG ⊢
      simp -dsimp (decide := true) (disch := first | omega | simp (decide := true) only [helrb21]) only [helrb22, ↓brun_b, envOf, reduceIte, Nat.reduceEqDiff, Nat.reduceAdd, Nat.reduceSub, Nat.reduceMul, Nat.reduceBEq, Nat.reduceLeDiff, Nat.reduceLT, Int.reduceToNat, rho, hG, hw1]
      refine OpSem.callq cal.f123 (plain_k2 mi mn pi pn ((base + k : Nat) : Int) (ts.getD k []) ht) rfl rfl rfl (by simp only [bflat_a, helrb23]) (by simp only [bflat_a, helrb23]) (by simp -dsimp (decide := true) (disch := first | omega | simp (decide := true) only [helrb21]) only [helrb19, ↓brun_b, envOf, reduceIte, Nat.reduceEqDiff, Nat.reduceAdd, Nat.reduceSub, Nat.reduceMul, Nat.reduceBEq, Nat.reduceLeDiff, Nat.reduceLT, Int.reduceToNat]) ?_
      simp -dsimp (decide := true) (disch := first | omega | simp (decide := true) only [helrb21]) only [helrb20, ↓brun_b, envOf, reduceIte, Nat.reduceEqDiff, Nat.reduceAdd, Nat.reduceSub, Nat.reduceMul, Nat.reduceBEq, Nat.reduceLeDiff, Nat.reduceLT, Int.reduceToNat, rho, hG, sapp1_sl el151, Nat.le_refl]
      refine And.intro (by omega) ?_
      refine hf _ (Sem.go (k := 1000) ?_)
      simp (decide := true) only [back_mk, backL_in, backL_row, backL_none, backL_nil, Nat.zero_add, Nat.reduceAdd]
      simp -dsimp (decide := true) (disch := first | omega | simp (decide := true) only [helrb21]) only [helrb17, ↓brun_b, envOf, reduceIte, Nat.reduceEqDiff, Nat.reduceAdd, Nat.reduceSub, Nat.reduceMul, Nat.reduceBEq, Nat.reduceLeDiff, Nat.reduceLT, Int.reduceToNat, rho, hw2]
      refine ⟨⟨k + 1, by omega⟩, [0, 1, 2, 5], ?_, by show ts.length - (k + 1) < ts.length - k; omega⟩
      (refine Wk.ofC ?_; simp -dsimp (decide := true) (disch := first | omega | simp (decide := true) only [helrb21]) only [helrb18, ↓brun_b, envOf, reduceIte, Nat.reduceEqDiff, Nat.reduceAdd, Nat.reduceSub, Nat.reduceMul, Nat.reduceBEq, Nat.reduceLeDiff, Nat.reduceLT, Int.reduceToNat, rho, frz1, ↓reduceIte])
      exact fun e he => app_dfam mi mn pi pn base ts k e he
    · have hk2 : k = ts.length := by
        simp only [decide_eq_false_iff_not] at h3
        omega
      subst hk2
      simp -dsimp (decide := true) (disch := first | omega | simp (decide := true) only [helrb21]) only [helrb17, ↓brun_b, envOf, reduceIte, Nat.reduceEqDiff, Nat.reduceAdd, Nat.reduceSub, Nat.reduceMul, Nat.reduceBEq, Nat.reduceLeDiff, Nat.reduceLT, Int.reduceToNat, rho]
      refine SQ.runL (rs := [.tmp 2]) [0, 1, 2, 3] _ _ rfl (And.intro rfl rfl) (by decide) rfl rfl ?_ ?_
      · simp -dsimp (decide := true) (disch := first | omega | simp (decide := true) only [helrb21]) only [helrb18, ↓brun_b, envOf, reduceIte, Nat.reduceEqDiff, Nat.reduceAdd, Nat.reduceSub, Nat.reduceMul, Nat.reduceBEq, Nat.reduceLeDiff, Nat.reduceLT, Int.reduceToNat, rho, frz1, ↓reduceIte]
      · simp -dsimp (decide := true) (disch := first | omega | simp (decide := true) only [helrb21]) only [helrb18, ↓brun_b, envOf, reduceIte, Nat.reduceEqDiff, Nat.reduceAdd, Nat.reduceSub, Nat.reduceMul, Nat.reduceBEq, Nat.reduceLeDiff, Nat.reduceLT, Int.reduceToNat, rho, frz1, ↓reduceIte]
end Go.Proofs
namespace Go.Proofs
open Go Go.SL
set_option maxRecDepth 100000
def helrb24 :=
  (And.intro (And.intro (And.intro (And.intro helrc3 helrc2) (And.intro helrc4 helrc5)) (And.intro (And.intro helrc6 helrc7) (And.intro helrc8 helrc9))) (And.intro (And.intro (And.intro @fh_flat @fk_flat) (And.intro @hit214 @tab.a124)) (And.intro (And.intro @tab.a35 @tab.s124) (And.intro @tab.s35 (And.intro @tab.u124 @tab.u35)))))
theorem hear_ackback (F : Frm) (hk : F.kind = 1) (id pid : I16) (mi mn pi pn nxi nxn base got : Int) (ts : List (List UInt8))
    (h1 : (decide (F.fi < pi) || (decide (F.fi = pi) && decide (F.fn < pn))) = false) (h0 : (decide (F.fi = 0) && decide (F.fn = 0)) = false) (h2 : (decide (pi < F.fi) || (decide (pi = F.fi) && decide (pn < F.fn))) = false)
    (hc : (decide (F.ti = mi) && decide (F.tn = mn)) = true) :
    SCall Try.prog 106 [.ptr 0 0 0, .agg F.fc.c, .agg [.v (.int .i64 nxi), .v (.int .i64 nxn)]] [some (.row ⟨39, 1, true, 204, fun _ => EC.c ⟨id, .v (.bool true), .v (.bool true), .v (.int .i64 mi), .v (.int .i64 mn), .v (.int .i64 pi), .v (.int .i64 pn), pid, .ptr 1 0 0⟩⟩), some (.row ⟨3, 1, false, 197, fun _ => [.v (.int .i64 base), .slc 2 0 ts.length, .v (.int .i64 got)]⟩), some (.row ⟨1, ts.length, false, 35, trow ts⟩)]
      fun r L => r = .ret (.agg [.v (.bool false), .v (.bool false), .v (.slice none 0 0), .v (.bool false), .slc 3 0 1]) ∧
        L = [some (.row ⟨39, 1, true, 204, fun _ => EC.c ⟨id, .v (.bool true), .v (.bool true), .v (.int .i64 mi), .v (.int .i64 mn), .v (.int .i64 pi), .v (.int .i64 pn), pid, .ptr 1 0 0⟩⟩), none, none, some (.row ⟨95, 1, true, 151, fun _ => FC.c { zF with kind := .v (.int .i64 3), fi := .v (.int .i64 mi), fn := .v (.int .i64 mn), ti := .v (.int .i64 pi), tn := .v (.int .i64 pn), n := .v (.int .i64 got) }⟩)] := by
  have hg := greeted_ack id pid F.a true mi mn pi pn F.fi F.fn F.ti F.tn nxi nxn base got ts h1 h0 h2 hc
  have ho := of_hello F hk
  simp only [Frm.fc] at ho ⊢
  refine SCall.mk (fn := Try.f106) (by kernel_rfl) rfl (Nat.le_of_ble_eq_true (by kernel_rfl)) ?_
  refine Sem.go (k := 1000) ?_
  simp -dsimp (decide := true) (disch := first | omega | simp (decide := true) only [helrb0]) only [helrb1, ↓brun_b, envOf, reduceIte, Nat.reduceEqDiff, Nat.reduceAdd, Nat.reduceSub, Nat.reduceMul, Nat.reduceBEq, Nat.reduceLeDiff, Nat.reduceLT, Int.reduceToNat, rho]
  refine SemOps.callq (k := 1000) cal.f119 (ho) rfl rfl rfl rfl (by simp only [bflat_a, helrb5]) (by simp only [bflat_a, helrb5]) (by simp -dsimp (decide := true) (disch := first | omega | simp (decide := true) only [helrb0]) only [helrb3, ↓brun_b, envOf, reduceIte, Nat.reduceEqDiff, Nat.reduceAdd, Nat.reduceSub, Nat.reduceMul, Nat.reduceBEq, Nat.reduceLeDiff, Nat.reduceLT, Int.reduceToNat]) ?_
  simp -dsimp (decide := true) (disch := first | omega | simp (decide := true) only [helrb0]) only [helrb24, ↓brun_b, envOf, reduceIte, Nat.reduceEqDiff, Nat.reduceAdd, Nat.reduceSub, Nat.reduceMul, Nat.reduceBEq, Nat.reduceLeDiff, Nat.reduceLT, Int.reduceToNat, rho]
  refine SemOps.callw [0, 1, 2] cal.f140 (hg) rfl rfl rfl (by simp -dsimp (decide := true) (disch := first | omega | simp (decide := true) only [helrb0]) only [helrb8, ↓brun_b, envOf, reduceIte, Nat.reduceEqDiff, Nat.reduceAdd, Nat.reduceSub, Nat.reduceMul, Nat.reduceBEq, Nat.reduceLeDiff, Nat.reduceLT, Int.reduceToNat, rho, frz1, ↓reduceIte]) rfl (by simp -dsimp (decide := true) (disch := first | omega | simp (decide := true) only [helrb0]) only [helrb8, ↓brun_b, envOf, reduceIte, Nat.reduceEqDiff, Nat.reduceAdd, Nat.reduceSub, Nat.reduceMul, Nat.reduceBEq, Nat.reduceLeDiff, Nat.reduceLT, Int.reduceToNat, rho, frz1, ↓reduceIte]) (by simp -dsimp (decide := true) (disch := first | omega | simp (decide := true) only [helrb0]) only [helrb3, ↓brun_b, envOf, reduceIte, Nat.reduceEqDiff, Nat.reduceAdd, Nat.reduceSub, Nat.reduceMul, Nat.reduceBEq, Nat.reduceLeDiff, Nat.reduceLT, Int.reduceToNat]) ?_
  refine SemOps.go (k := 1000) ?_
  simp -dsimp (decide := true) (disch := first | omega | simp (decide := true) only [helrb0]) only [helrb1, ↓brun_b, envOf, reduceIte, Nat.reduceEqDiff, Nat.reduceAdd, Nat.reduceSub, Nat.reduceMul, Nat.reduceBEq, Nat.reduceLeDiff, Nat.reduceLT, Int.reduceToNat, rho]
  refine SQ.runL (rs := [.cell 6 162]) [0, 1, 2, 7] _ _ rfl (And.intro rfl rfl) (by decide) rfl rfl ?_ ?_
  · simp -dsimp (decide := true) (disch := first | omega | simp (decide := true) only [helrb0]) only [helrb4, ↓brun_b, envOf, reduceIte, Nat.reduceEqDiff, Nat.reduceAdd, Nat.reduceSub, Nat.reduceMul, Nat.reduceBEq, Nat.reduceLeDiff, Nat.reduceLT, Int.reduceToNat, rho, frz1, ↓reduceIte]
  · simp -dsimp (decide := true) (disch := first | omega | simp (decide := true) only [helrb0]) only [helrb4, ↓brun_b, envOf, reduceIte, Nat.reduceEqDiff, Nat.reduceAdd, Nat.reduceSub, Nat.reduceMul, Nat.reduceBEq, Nat.reduceLeDiff, Nat.reduceLT, Int.reduceToNat, rho, frz1, ↓reduceIte]
theorem hear_bad (F : Frm) (hk : F.kind = 1) (id pid : I16) (op : Bool) (mi mn pi pn nxi nxn base got : Int) (ts : List (List UInt8))
    (hb : ((decide (F.fi < pi) || (decide (F.fi = pi) && decide (F.fn < pn))) || (decide (F.fi = 0) && decide (F.fn = 0))) = true) :
    SCall Try.prog 106 [.ptr 0 0 0, .agg F.fc.c, .agg [.v (.int .i64 nxi), .v (.int .i64 nxn)]] [some (.row ⟨39, 1, false, 204, fun _ => EC.c ⟨id, .v (.bool true), .v (.bool op), .v (.int .i64 mi), .v (.int .i64 mn), .v (.int .i64 pi), .v (.int .i64 pn), pid, .ptr 1 0 0⟩⟩), some (.row ⟨3, 1, false, 197, fun _ => [.v (.int .i64 base), .slc 2 0 ts.length, .v (.int .i64 got)]⟩), some (.row ⟨1, ts.length, false, 35, trow ts⟩)]
      fun r L => r = .ret (.agg [.v (.bool false), .v (.bool false), .v (.slice none 0 0), .v (.bool false), .v (.slice none 0 0)]) ∧ L = [none, none, none] := by
  have hg := greeted_bad id pid F.a true op mi mn pi pn F.fi F.fn F.ti F.tn nxi nxn base got ts hb
  have ho := of_hello F hk
  simp only [Frm.fc] at ho ⊢
  refine SCall.mk (fn := Try.f106) (by kernel_rfl) rfl (Nat.le_of_ble_eq_true (by kernel_rfl)) ?_
  refine Sem.go (k := 1000) ?_
  simp -dsimp (decide := true) (disch := first | omega | simp (decide := true) only [helrb0]) only [helrb1, ↓brun_b, envOf, reduceIte, Nat.reduceEqDiff, Nat.reduceAdd, Nat.reduceSub, Nat.reduceMul, Nat.reduceBEq, Nat.reduceLeDiff, Nat.reduceLT, Int.reduceToNat, rho]
  refine SemOps.callq (k := 1000) cal.f119 (ho) rfl rfl rfl rfl (by simp only [bflat_a, helrb5]) (by simp only [bflat_a, helrb5]) (by simp -dsimp (decide := true) (disch := first | omega | simp (decide := true) only [helrb0]) only [helrb3, ↓brun_b, envOf, reduceIte, Nat.reduceEqDiff, Nat.reduceAdd, Nat.reduceSub, Nat.reduceMul, Nat.reduceBEq, Nat.reduceLeDiff, Nat.reduceLT, Int.reduceToNat]) ?_
  simp -dsimp (decide := true) (disch := first | omega | simp (decide := true) only [helrb0]) only [helrb24, ↓brun_b, envOf, reduceIte, Nat.reduceEqDiff, Nat.reduceAdd, Nat.reduceSub, Nat.reduceMul, Nat.reduceBEq, Nat.reduceLeDiff, Nat.reduceLT, Int.reduceToNat, rho]
  refine SemOps.callw [0, 1, 2] cal.f140 (hg) rfl rfl rfl (by simp -dsimp (decide := true) (disch := first | omega | simp (decide := true) only [helrb0]) only [helrb8, ↓brun_b, envOf, reduceIte, Nat.reduceEqDiff, Nat.reduceAdd, Nat.reduceSub, Nat.reduceMul, Nat.reduceBEq, Nat.reduceLeDiff, Nat.reduceLT, Int.reduceToNat, rho, frz1, ↓reduceIte]) rfl (by simp -dsimp (decide := true) (disch := first | omega | simp (decide := true) only [helrb0]) only [helrb8, ↓brun_b, envOf, reduceIte, Nat.reduceEqDiff, Nat.reduceAdd, Nat.reduceSub, Nat.reduceMul, Nat.reduceBEq, Nat.reduceLeDiff, Nat.reduceLT, Int.reduceToNat, rho, frz1, ↓reduceIte]) (by simp -dsimp (decide := true) (disch := first | omega | simp (decide := true) only [helrb0]) only [helrb3, ↓brun_b, envOf, reduceIte, Nat.reduceEqDiff, Nat.reduceAdd, Nat.reduceSub, Nat.reduceMul, Nat.reduceBEq, Nat.reduceLeDiff, Nat.reduceLT, Int.reduceToNat]) ?_
  refine SemOps.go (k := 1000) ?_
  simp -dsimp (decide := true) (disch := first | omega | simp (decide := true) only [helrb0]) only [helrb1, ↓brun_b, envOf, reduceIte, Nat.reduceEqDiff, Nat.reduceAdd, Nat.reduceSub, Nat.reduceMul, Nat.reduceBEq, Nat.reduceLeDiff, Nat.reduceLT, Int.reduceToNat, rho]
  refine SQ.runL (rs := [.cell 6 162]) [0, 1, 2] _ _ rfl (And.intro rfl rfl) (by decide) rfl rfl ?_ ?_
  · simp -dsimp (decide := true) (disch := first | omega | simp (decide := true) only [helrb0]) only [helrb4, ↓brun_b, envOf, reduceIte, Nat.reduceEqDiff, Nat.reduceAdd, Nat.reduceSub, Nat.reduceMul, Nat.reduceBEq, Nat.reduceLeDiff, Nat.reduceLT, Int.reduceToNat, rho, frz1, ↓reduceIte]
  · simp -dsimp (decide := true) (disch := first | omega | simp (decide := true) only [helrb0]) only [helrb4, ↓brun_b, envOf, reduceIte, Nat.reduceEqDiff, Nat.reduceAdd, Nat.reduceSub, Nat.reduceMul, Nat.reduceBEq, Nat.reduceLeDiff, Nat.reduceLT, Int.reduceToNat, rho, frz1, ↓reduceIte]
end Go.Proofs
namespace Go.SL
open Go
def frows (Fs : List Frm) : List (List SV) := Fs.map fun F => F.fc.c
theorem frows_len (Fs : List Frm) : (frows Fs).length = Fs.length := by simp [frows]
theorem frows_at (Fs : List Frm) (k : Nat) (F : Frm) (h : Fs[k]? = some F) : (frows Fs).getD k [] = F.fc.c := by
  simp [frows, List.getD_eq_getElem?_getD, h]
end Go.SL
namespace Go.Proofs
open Go Go.SL
set_option maxRecDepth 100000
theorem Frm.flat (F : Frm) : SV.flatL F.fc.c = true := frm_flat _ _ _ _ _ _ _ _ _ _ _ _ _ _ _ _ _ _ _ _
theorem frows_flat (Fs : List Frm) : SV.flatR (frows Fs) = true := flatR_map _ _ fun F => Frm.flat F
def helrb25 :=
  (And.intro (And.intro (And.intro helrc0 helrc1) (And.intro helrc2 (And.intro @IC.c_length @fh_flat))) (And.intro (And.intro @fk_flat (And.intro @frm_flat @frows_flat)) (And.intro @frows_len (And.intro @idrs_len @lrows_length))))
def helrb26 :=
  (And.intro (And.intro (And.intro helrc3 (And.intro helrc2 helrc5)) (And.intro helrc7 (And.intro @fh_flat @fk_flat))) (And.intro (And.intro @tab.a124 (And.intro @tab.a35 @tab.s124)) (And.intro @tab.s35 (And.intro @tab.u124 @tab.u35))))
def helrb27 :=
  (And.intro (And.intro (And.intro (And.intro helrc3 helrc2) (And.intro helrc5 helrc7)) (And.intro (And.intro @bwk_a @eq_self.{1}) (And.intro @fh_flat @fk_flat))) (And.intro (And.intro (And.intro @forall_const.{1} @implies_true.{0}) (And.intro @implies_true.{1} @tab.a124)) (And.intro (And.intro @tab.a35 @tab.s124) (And.intro @tab.s35 (And.intro @tab.u124 @tab.u35)))))
def helrb28 :=
  (And.intro (And.intro (And.intro helrc3 (And.intro helrc2 helrc4)) (And.intro helrc5 (And.intro helrc7 @fh_flat))) (And.intro (And.intro @fk_flat (And.intro @tab.a124 @tab.a35)) (And.intro (And.intro @tab.s124 @tab.s35) (And.intro @tab.u124 @tab.u35))))
def helrb29 :=
  (And.intro (And.intro (And.intro helrc5 helrc7) (And.intro @tab.a124 @tab.a35)) (And.intro (And.intro @tab.s124 @tab.s35) (And.intro @tab.u124 @tab.u35)))
theorem frames_refl (Fs : List Frm) (h : Fs.length < 4611686018427387904) (hF : ∀ F ∈ Fs, F.tr.length < 4611686018427387904 ∧ F.is.length < 4611686018427387904) : Pure Try.prog 95 [.rsl 95 (frows Fs), .rsl 95 (frows Fs)] (.v (.bool true)) := by
  have hl : (frows Fs).length = Fs.length := frows_len Fs
  refine SCall.mk (fn := Try.f95) (by kernel_rfl) rfl (Nat.le_of_ble_eq_true (by kernel_rfl)) ?_
  refine Sem.go (k := 1000) ?_
  simp -dsimp (decide := true) (disch := first | omega | simp (decide := true) only [helrb25]) only [helrb26, ↓brun_b, envOf, reduceIte, Nat.reduceEqDiff, Nat.reduceAdd, Nat.reduceSub, Nat.reduceMul, Nat.reduceBEq, Nat.reduceLeDiff, Nat.reduceLT, Int.reduceToNat, rho, hl]
  refine Sem.loop (ι := {k : Nat // k ≤ Fs.length}) (fun k => ⟨27, 0, [(0, .rsl 95 (frows Fs)), (1, .rsl 95 (frows Fs)), (12, .v (.int .i64 (Fs.length : Int))), (13, .v (.int .i64 (k.1 : Int)))], []⟩) (fun k => Fs.length - k.1) ⟨0, by omega⟩ [] ?_ ?_
  · (refine Wk.ofC ?_; simp -dsimp (decide := true) (disch := first | omega | simp (decide := true) only [helrb25]) only [helrb27, ↓brun_b, envOf, reduceIte, Nat.reduceEqDiff, Nat.reduceAdd, Nat.reduceSub, Nat.reduceMul, Nat.reduceBEq, Nat.reduceLeDiff, Nat.reduceLT, Int.reduceToNat, rho, frz1, ↓reduceIte])
  · rintro ⟨k, hk⟩
    refine Sem.go (k := 1000) ?_
    simp -dsimp (decide := true) (disch := first | omega | simp (decide := true) only [helrb25]) only [helrb26, ↓brun_b, envOf, reduceIte, Nat.reduceEqDiff, Nat.reduceAdd, Nat.reduceSub, Nat.reduceMul, Nat.reduceBEq, Nat.reduceLeDiff, Nat.reduceLT, Int.reduceToNat, rho]
    refine SCond.split (fun h3 => ?_) (fun h3 => ?_)
    · simp only [decide_eq_true_eq] at h3
      have hk' : k < Fs.length := by omega
      have hw : IntKind.i64.wrap ((k : Int) + 1) = ((k + 1 : Nat) : Int) := by rw [wrap_i64 _ (by omega)]; rfl
      obtain ⟨F, hFk⟩ : ∃ F, Fs[k]? = some F := ⟨_, List.getElem?_eq_getElem hk'⟩
      have hm : F ∈ Fs := List.mem_of_getElem? hFk
      have hs := same_refl F (hF F hm).1 (hF F hm).2
      have hfl := Frm.flat F
      simp -dsimp (decide := true) (disch := first | omega | simp (decide := true) only [helrb25]) only [helrb28, ↓brun_b, envOf, reduceIte, Nat.reduceEqDiff, Nat.reduceAdd, Nat.reduceSub, Nat.reduceMul, Nat.reduceBEq, Nat.reduceLeDiff, Nat.reduceLT, Int.reduceToNat, rho]
      refine Sem.draw' (by kernel_rfl) (.one 0 (.one 1 (.one 2 (.one 3 (.one 4 (.one 5 (.one 6 (.one 7 (.alt 8 (.one 9 .done) .non))))))))) [] (by kernel_rfl) (fun G ff hG hf => ?_)
      simp (decide := true) only [helrb7, Nat.reduceAdd] at hG ⊢
      simp -dsimp (decide := true) (disch := first | omega | simp (decide := true) only [helrb25]) only [helrb28, ↓brun_b, envOf, reduceIte, Nat.reduceEqDiff, Nat.reduceAdd, Nat.reduceSub, Nat.reduceMul, Nat.reduceBEq, Nat.reduceLeDiff, Nat.reduceLT, Int.reduceToNat, rho, hG, frows_at _ _ _ hFk, hl]
      refine And.intro (by omega) (And.intro (by omega) ?_)
      refine OpSem.callw [] cal.f104 (hs) rfl rfl (by simp -dsimp (decide := true) (disch := first | omega | simp (decide := true) only [helrb25]) only [helrb27, ↓brun_b, envOf, reduceIte, Nat.reduceEqDiff, Nat.reduceAdd, Nat.reduceSub, Nat.reduceMul, Nat.reduceBEq, Nat.reduceLeDiff, Nat.reduceLT, Int.reduceToNat, rho, frz1, ↓reduceIte]) rfl (by simp -dsimp (decide := true) (disch := first | omega | simp (decide := true) only [helrb25]) only [helrb27, ↓brun_b, envOf, reduceIte, Nat.reduceEqDiff, Nat.reduceAdd, Nat.reduceSub, Nat.reduceMul, Nat.reduceBEq, Nat.reduceLeDiff, Nat.reduceLT, Int.reduceToNat, rho, frz1, ↓reduceIte]) (by simp -dsimp (decide := true) (disch := first | omega | simp (decide := true) only [helrb25]) only [helrb29, ↓brun_b, envOf, reduceIte, Nat.reduceEqDiff, Nat.reduceAdd, Nat.reduceSub, Nat.reduceMul, Nat.reduceBEq, Nat.reduceLeDiff, Nat.reduceLT, Int.reduceToNat]) ?_
      simp -dsimp (decide := true) (disch := first | omega | simp (decide := true) only [helrb25]) only [helrb26, ↓brun_b, envOf, reduceIte, Nat.reduceEqDiff, Nat.reduceAdd, Nat.reduceSub, Nat.reduceMul, Nat.reduceBEq, Nat.reduceLeDiff, Nat.reduceLT, Int.reduceToNat, rho, hG]
      refine hf _ (Sem.go (k := 1000) ?_)
      simp (decide := true) only [back_mk, backL_in, backL_row, backL_none, backL_nil, Nat.zero_add, Nat.reduceAdd]
      simp -dsimp (decide := true) (disch := first | omega | simp (decide := true) only [helrb25]) only [helrb26, ↓brun_b, envOf, reduceIte, Nat.reduceEqDiff, Nat.reduceAdd, Nat.reduceSub, Nat.reduceMul, Nat.reduceBEq, Nat.reduceLeDiff, Nat.reduceLT, Int.reduceToNat, rho, hw]
      refine ⟨⟨k + 1, by omega⟩, [], ?_, by show Fs.length - (k + 1) < Fs.length - k; omega⟩
      (refine Wk.ofC ?_; simp -dsimp (decide := true) (disch := first | omega | simp (decide := true) only [helrb25]) only [helrb27, ↓brun_b, envOf, reduceIte, Nat.reduceEqDiff, Nat.reduceAdd, Nat.reduceSub, Nat.reduceMul, Nat.reduceBEq, Nat.reduceLeDiff, Nat.reduceLT, Int.reduceToNat, rho, frz1, ↓reduceIte])
    · simp -dsimp (decide := true) (disch := first | omega | simp (decide := true) only [helrb25]) only [helrb26, ↓brun_b, envOf, reduceIte, Nat.reduceEqDiff, Nat.reduceAdd, Nat.reduceSub, Nat.reduceMul, Nat.reduceBEq, Nat.reduceLeDiff, Nat.reduceLT, Int.reduceToNat, rho]
      refine SQ.answer (rs := [.tmp 4]) rfl rfl ?_
      simp -dsimp (decide := true) (disch := first | omega | simp (decide := true) only [helrb25]) only [helrb27, ↓brun_b, envOf, reduceIte, Nat.reduceEqDiff, Nat.reduceAdd, Nat.reduceSub, Nat.reduceMul, Nat.reduceBEq, Nat.reduceLeDiff, Nat.reduceLT, Int.reduceToNat, rho, frz1, ↓reduceIte]
theorem bs145_0 (N : Nat) : sBuildSlice Try.prog N 145 0 [] = some ⟨.slc N 0 0, ⟨none, some (.row ⟨1, 0, true, 3, fun e => (([] : List SV).drop (e * 1)).take 1⟩)⟩, True⟩ := by kernel_rfl
theorem bs79_0 (N : Nat) : sBuildSlice Try.prog N 79 0 [] = some ⟨.slc N 0 0, ⟨none, some (.row ⟨16, 0, true, 23, fun e => (([] : List SV).drop (e * 16)).take 16⟩)⟩, True⟩ := by kernel_rfl
theorem app_row2 {fz : Nat → Option SB} {ρ : Nat → Nat} (rows : List (List SV)) (hf : SV.flatR rows = true) (x : List SV) (i : Nat) (r : List SV) (h : rows[i]? = some r) : EntL fz ρ r (if 0 + i < 0 then x else rows.getD (0 + i - 0) []) := by
  have e : (if 0 + i < 0 then x else rows.getD (0 + i - 0) []) = r := by
    simp [List.getD_eq_getElem?_getD, h]
  rw [e]
  exact EntL.self (flatR_getD rows i r hf h)
def helrb30 :=
  (And.intro (And.intro (And.intro (And.intro helrc3 (And.intro helrc2 helrc4)) (And.intro helrc5 (And.intro helrc7 @FC.set_is))) (And.intro (And.intro @FC.set_tr (And.intro @FC.set_tx @FC.set_val)) (And.intro @IC.at_val (And.intro @IC.at_vn @IC.c_length)))) (And.intro (And.intro (And.intro @IC.part_key (And.intro @IC.part_ver @IC.part_vwho)) (And.intro @bs145_0 (And.intro @bs35_0 @bs79_0))) (And.intro (And.intro @fh_flat (And.intro @fk_flat @idrs_len)) (And.intro (And.intro @lrows_length @tab.a35) (And.intro @tab.s35 @tab.u35)))))
def helrb31 :=
  (And.intro (And.intro (And.intro (And.intro helrc3 helrc2) (And.intro helrc4 helrc5)) (And.intro (And.intro helrc7 @FC.ent) (And.intro @bwk_a @eq_self.{1}))) (And.intro (And.intro (And.intro @fh_flat @fk_flat) (And.intro @forall_const.{1} @implies_true.{0})) (And.intro (And.intro @implies_true.{1} @tab.a35) (And.intro @tab.s35 @tab.u35))))
theorem copyF_calls (F : Frm) (h8 : F.tr.length * 8 ≤ 140737488355328) (h9 : F.is.length * 16 ≤ 140737488355328) (h10 : F.tx.length ≤ 140737488355328) (h11 : F.val.length ≤ 140737488355328) : Pure Try.prog 107 [.agg F.fc.c] (.agg F.fc.c) := by
  refine SCall.mk (fn := Try.f107) (by kernel_rfl) rfl (Nat.le_of_ble_eq_true (by kernel_rfl)) ?_
  refine Sem.go (k := 1000) ?_
  simp -dsimp (decide := true) (disch := first | omega | simp (decide := true) only [helrb25]) only [helrb30, ↓brun_b, envOf, reduceIte, Nat.reduceEqDiff, Nat.reduceAdd, Nat.reduceSub, Nat.reduceMul, Nat.reduceBEq, Nat.reduceLeDiff, Nat.reduceLT, Int.reduceToNat, rho, Frm.fc, sapp1_sl el5, sapp1_sl elN3, sapp1_sl elN23, Nat.le_refl, h8, h9, h10, h11]
  refine SQ.answer (rs := [.cell 2 151]) rfl rfl ?_
  simp -dsimp (decide := true) (disch := first | omega | simp (decide := true) only [helrb25]) only [helrb31, ↓brun_b, envOf, reduceIte, Nat.reduceEqDiff, Nat.reduceAdd, Nat.reduceSub, Nat.reduceMul, Nat.reduceBEq, Nat.reduceLeDiff, Nat.reduceLT, Int.reduceToNat, rho, frz1, ↓reduceIte]
  exact ⟨Ent_row rfl rfl (lrows_length _).symm (by omega) fun i r hr => app_row2 _ (lrows_flat _) [] i r hr, Ent_row rfl rfl (idrs_len _).symm (by omega) fun i r hr => app_row2 _ (idrs_flat _) [] i r hr, Ent_row rfl rfl (brows_length _).symm (by omega) fun i r hr => app_row2 _ (flatR_brows _) [] i r hr, Ent_row rfl rfl (brows_length _).symm (by omega) fun i r hr => app_row2 _ (flatR_brows _) [] i r hr⟩
end Go.Proofs
