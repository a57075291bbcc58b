/- Contracts of functions that the laws reach, on abstract values, and what they need: no conditions but those that each theorem states. -/
import Derived.Test.YtheodenjjaoncaaRefP
set_option linter.unusedVariables false
set_option linter.unusedSimpArgs false
set_option linter.defProp false
namespace Go.Proofs
open Go Go.SL
set_option maxRecDepth 100000
theorem al165 (N : Nat) : sAlloc Try.prog N 165 = some ⟨.ptr N 0 0, ⟨none, some (.row ⟨5, 1, true, 165, fun _ => [.v (.bool false), .v (.bool false), .v (.slice none 0 0), .v (.bool false), .v (.slice none 0 0)]⟩)⟩, True⟩ := sAlloc_eq N 165 _ tab.z165 rfl
def refqc0 :=
  (And.intro (And.intro (And.intro (And.intro @AD.flat @AK.flat) (And.intro @CP.flat (And.intro @DR.flat @EC.flat))) (And.intro (And.intro @GT.flat @H1.flat) (And.intro @I16.flat (And.intro @IC.flat @PE.flat)))) (And.intro (And.intro (And.intro @PK.flat @PT.flat) (And.intro @RE.flat (And.intro @SU.flat @brow_flat))) (And.intro (And.intro @frm_flat (And.intro @idrs_flat @lrow_flat)) (And.intro @lrows_flat (And.intro @trow_flat @trows_flat)))))
def refqc1 :=
  (And.intro (And.intro @EC.c_length (And.intro @FC.c_length @H1.c_length)) (And.intro (And.intro @I16.c_length @RE.c_length) (And.intro @brow_len @trow_len)))
def refqb0 :=
  (And.intro (And.intro (And.intro (And.intro (And.intro refqc0 refqc1) (And.intro @AD.c_length (And.intro @AD.one @AK.c_length))) (And.intro (And.intro @AK.one @CP.c_length) (And.intro @CP.one (And.intro @DR.c_length @DR.one)))) (And.intro (And.intro (And.intro @EC.one @FC.flat_eq) (And.intro @FC.one_eq (And.intro @GT.c_length @GT.one))) (And.intro (And.intro @H1.one @I16.one) (And.intro @IC.c_length (And.intro @IC.one @PE.c_length))))) (And.intro (And.intro (And.intro (And.intro @PE.one @PK.c_length) (And.intro @PK.one (And.intro @PT.c_length @PT.one))) (And.intro (And.intro @RE.one @SU.c_length) (And.intro @SU.one (And.intro @bdset_a @fh_flat)))) (And.intro (And.intro (And.intro @fk_flat @idrs_len) (And.intro @lrow_len (And.intro @lrows_length @trows_length))) (And.intro (And.intro @zD.eq_1 (And.intro @zE.eq_1 @zF.eq_1)) (And.intro @zH.eq_1 (And.intro @zK.eq_1 @zR.eq_1))))))
def refqc2 :=
  (And.intro (And.intro (And.intro (And.intro (And.intro (And.intro @EC.at_mi (And.intro @EC.at_mn @EC.at_op)) (And.intro @EC.at_pi (And.intro @EC.at_pn @EC.at_up))) (And.intro (And.intro @EC.at_w (And.intro @EC.ent @EC.part)) (And.intro @EC.part_id (And.intro @EC.part_mine @EC.part_peer)))) (And.intro (And.intro (And.intro @EC.part_pid (And.intro @EC.renc @EC.set_all)) (And.intro @EC.set_mine (And.intro @EC.set_op @EC.set_peer))) (And.intro (And.intro @EC.set_pid (And.intro @EC.set_up @EC.set_w)) (And.intro (And.intro @FC.part @FC.set_all) (And.intro @H1.at_fi @H1.at_fn))))) (And.intro (And.intro (And.intro (And.intro @H1.at_ti (And.intro @H1.at_tn @H1.part)) (And.intro @H1.part_a (And.intro @H1.part_from @H1.part_to))) (And.intro (And.intro @H1.set_all (And.intro @I16.part @Int.cast_ofNat_Int)) (And.intro (And.intro @List.replicate_succ.{0} @List.replicate_zero.{0}) (And.intro @RE.at_mi @RE.at_mn)))) (And.intro (And.intro (And.intro @RE.at_op (And.intro @RE.at_pi @RE.at_pn)) (And.intro @RE.at_up (And.intro @RE.at_wg @RE.at_wk))) (And.intro (And.intro @RE.at_wt (And.intro @RE.ent @RE.part)) (And.intro (And.intro @RE.part_id @RE.part_mine) (And.intro @RE.part_peer @RE.part_pid)))))) (And.intro (And.intro (And.intro (And.intro (And.intro @RE.part_w (And.intro @RE.renc @RE.set_all)) (And.intro @RE.set_mine (And.intro @RE.set_op @RE.set_peer))) (And.intro (And.intro @RE.set_pid (And.intro @RE.set_up @RE.set_w)) (And.intro (And.intro @RE.set_wg @RE.set_wk) (And.intro @RE.set_wt @SKren_row)))) (And.intro (And.intro (And.intro @after_mk (And.intro @al135 @al151)) (And.intro @al162 (And.intro @al210 @al214))) (And.intro (And.intro @al218 (And.intro @al23 @brow_cell)) (And.intro (And.intro @build135z @build142f) (And.intro @build142r @build151a))))) (And.intro (And.intro (And.intro (And.intro @build151h (And.intro @build151z @build162z)) (And.intro @build214 (And.intro @build23z @cellAt_succ))) (And.intro (And.intro @cellAt_zero (And.intro @i16_set @mergeL_done)) (And.intro (And.intro @mergeL_own @mergeL_row) (And.intro @mk210 @mk214)))) (And.intro (And.intro (And.intro @mk218 (And.intro @renL_cons @renL_flat)) (And.intro @renL_nil (And.intro @ren_tup @sop_assert))) (And.intro (And.intro @sp02 (And.intro @sp05 @sp22)) (And.intro (And.intro @splice_0 @splice_c) (And.intro @splice_s @trow_cell)))))))
def refqc3 :=
  (And.intro (And.intro (And.intro (And.intro @FC.at_fi (And.intro @FC.at_fn @FC.at_is)) (And.intro @FC.at_kind (And.intro @FC.at_n @FC.at_op))) (And.intro (And.intro @FC.at_pn (And.intro @FC.at_ti @FC.at_tn)) (And.intro @FC.at_toA (And.intro @FC.at_tr @FC.at_ttl)))) (And.intro (And.intro (And.intro @FC.at_tx (And.intro @FC.at_val @FC.at_vn)) (And.intro @FC.part_P (And.intro @FC.part_a @FC.part_b))) (And.intro (And.intro @FC.part_from (And.intro @FC.part_it @FC.part_key)) (And.intro (And.intro @FC.part_to @FC.part_ver) (And.intro @FC.part_vwho @FC.part_who)))))
def refqc4 :=
  (And.intro (And.intro (And.intro (And.intro (And.intro (And.intro @beq_self_eq_true.{0} (And.intro @brun_a @cond_false.{1})) (And.intro @cond_true.{1} (And.intro @tab.a124 @tab.a135))) (And.intro (And.intro @tab.a140 (And.intro @tab.a142 @tab.a144)) (And.intro @tab.a145 (And.intro @tab.a147 @tab.a149)))) (And.intro (And.intro (And.intro @tab.a151 (And.intro @tab.a165 @tab.a2)) (And.intro @tab.a23 (And.intro @tab.a3 @tab.a35))) (And.intro (And.intro @tab.a4 (And.intro @tab.a44 @tab.a5)) (And.intro @tab.a54 (And.intro @tab.a79 @tab.f135x0))))) (And.intro (And.intro (And.intro (And.intro @tab.f135x1 (And.intro @tab.f142x0 @tab.f142x1)) (And.intro @tab.f142x2 (And.intro @tab.f142x3 @tab.f142x4))) (And.intro (And.intro @tab.f142x5 (And.intro @tab.f142x6 @tab.f144x0)) (And.intro @tab.f144x1 (And.intro @tab.f147x0 @tab.f147x1)))) (And.intro (And.intro (And.intro @tab.f149x0 (And.intro @tab.f149x1 @tab.f149x2)) (And.intro @tab.f151x0 (And.intro @tab.f151x1 @tab.f151x10))) (And.intro (And.intro @tab.f151x11 (And.intro @tab.f151x12 @tab.f151x13)) (And.intro (And.intro @tab.f151x2 @tab.f151x3) (And.intro @tab.f151x4 @tab.f151x5)))))) (And.intro (And.intro (And.intro (And.intro (And.intro @tab.f151x6 (And.intro @tab.f151x7 @tab.f151x8)) (And.intro @tab.f151x9 (And.intro @tab.f165x0 @tab.f165x1))) (And.intro (And.intro @tab.f165x2 (And.intro @tab.f165x3 @tab.f165x4)) (And.intro @tab.f54x0 (And.intro @tab.f54x1 @tab.f54x2)))) (And.intro (And.intro (And.intro @tab.s124 (And.intro @tab.s135 @tab.s140)) (And.intro @tab.s142 (And.intro @tab.s144 @tab.s145))) (And.intro (And.intro @tab.s147 (And.intro @tab.s149 @tab.s151)) (And.intro (And.intro @tab.s165 @tab.s2) (And.intro @tab.s23 @tab.s3))))) (And.intro (And.intro (And.intro (And.intro @tab.s35 (And.intro @tab.s4 @tab.s44)) (And.intro @tab.s5 (And.intro @tab.s54 @tab.s79))) (And.intro (And.intro @tab.u124 (And.intro @tab.u135 @tab.u140)) (And.intro @tab.u142 (And.intro @tab.u144 @tab.u145)))) (And.intro (And.intro (And.intro @tab.u147 (And.intro @tab.u149 @tab.u151)) (And.intro @tab.u165 (And.intro @tab.u2 @tab.u23))) (And.intro (And.intro @tab.u3 (And.intro @tab.u35 @tab.u4)) (And.intro (And.intro @tab.u44 @tab.u5) (And.intro @tab.u54 @tab.u79)))))))
def refqb1 :=
  (And.intro (And.intro refqc2 (And.intro refqc1 refqc3)) (And.intro (And.intro refqc4 @al165) (And.intro @fh_flat @fk_flat)))
def refqb2 :=
  (And.intro (And.intro (And.intro refqc2 refqc1) (And.intro refqc4 (And.intro @bwk_a @eq_self.{1}))) (And.intro (And.intro @fh_flat @fk_flat) (And.intro @forall_const.{1} (And.intro @implies_true.{0} @implies_true.{1}))))
theorem refHearDown_calls (F : Frm) (id pid : I16) (op : Bool) (mi mn pi pn nxi nxn kn gt : Int) (k : Nat) (ts : List (List UInt8)) :
    SCall Try.prog 108 [.ptr 0 0 0, .agg F.fc.c, .agg [.v (.int .i64 nxi), .v (.int .i64 nxn)]] [some (.row ⟨41, 1, false, 142, fun _ => RE.c ⟨id, .v (.bool false), .v (.bool op), .v (.int .i64 mi), .v (.int .i64 mn), .v (.int .i64 pi), .v (.int .i64 pn), pid, .slc 1 0 k, .v (.int .i64 kn), .v (.int .i64 gt)⟩⟩), some (.row ⟨1, k, false, 35, trow ts⟩)]
      fun r L => r = .ret (.agg [.v (.bool false), .v (.bool false), .v (.slice none 0 0), .v (.bool false), .v (.slice none 0 0)]) ∧ L = [none, none] := by
  simp only [Frm.fc]
  refine SCall.mk (fn := Try.f108) (by kernel_rfl) rfl (Nat.le_of_ble_eq_true (by kernel_rfl)) ?_
  refine Sem.go (k := 1000) ?_
  simp -dsimp (decide := true) (disch := first | omega | simp (decide := true) only [refqb0]) only [refqb1, ↓brun_b, envOf, reduceIte, Nat.reduceEqDiff, Nat.reduceAdd, Nat.reduceSub, Nat.reduceMul, Nat.reduceBEq, Nat.reduceLeDiff, Nat.reduceLT, Int.reduceToNat, rho]
  refine SQ.runL (rs := [.cell 6 165]) [0, 1] _ _ rfl (And.intro rfl rfl) (by decide) rfl rfl ?_ ?_
  · simp -dsimp (decide := true) (disch := first | omega | simp (decide := true) only [refqb0]) only [refqb2, ↓brun_b, envOf, reduceIte, Nat.reduceEqDiff, Nat.reduceAdd, Nat.reduceSub, Nat.reduceMul, Nat.reduceBEq, Nat.reduceLeDiff, Nat.reduceLT, Int.reduceToNat, rho, frz1, ↓reduceIte]
  · simp -dsimp (decide := true) (disch := first | omega | simp (decide := true) only [refqb0]) only [refqb2, ↓brun_b, envOf, reduceIte, Nat.reduceEqDiff, Nat.reduceAdd, Nat.reduceSub, Nat.reduceMul, Nat.reduceBEq, Nat.reduceLeDiff, Nat.reduceLT, Int.reduceToNat, rho, frz1, ↓reduceIte]
theorem refHear_other (F : Frm) (k1 : decide (F.kind = 1) = false) (k2 : decide (F.kind = 2) = false) (k3 : decide (F.kind = 3) = false) (id pid : I16) (op : Bool) (mi mn pi pn nxi nxn kn gt : Int) (k : Nat) (ts : List (List UInt8)) :
    SCall Try.prog 108 [.ptr 0 0 0, .agg F.fc.c, .agg [.v (.int .i64 nxi), .v (.int .i64 nxn)]] [some (.row ⟨41, 1, false, 142, fun _ => RE.c ⟨id, .v (.bool true), .v (.bool op), .v (.int .i64 mi), .v (.int .i64 mn), .v (.int .i64 pi), .v (.int .i64 pn), pid, .slc 1 0 k, .v (.int .i64 kn), .v (.int .i64 gt)⟩⟩), some (.row ⟨1, k, false, 35, trow ts⟩)]
      fun r L => r = .ret (.agg [.v (.bool false), .v (.bool false), .v (.slice none 0 0), .v (.bool false), .v (.slice none 0 0)]) ∧ L = [none, none] := by
  simp only [Frm.fc]
  refine SCall.mk (fn := Try.f108) (by kernel_rfl) rfl (Nat.le_of_ble_eq_true (by kernel_rfl)) ?_
  refine Sem.go (k := 1000) ?_
  simp -dsimp (decide := true) (disch := first | omega | simp (decide := true) only [refqb0]) only [refqb1, ↓brun_b, envOf, reduceIte, Nat.reduceEqDiff, Nat.reduceAdd, Nat.reduceSub, Nat.reduceMul, Nat.reduceBEq, Nat.reduceLeDiff, Nat.reduceLT, Int.reduceToNat, rho, k1, k2, k3]
  refine SQ.runL (rs := [.cell 6 165]) [0, 1] _ _ rfl (And.intro rfl rfl) (by decide) rfl rfl ?_ ?_
  · simp -dsimp (decide := true) (disch := first | omega | simp (decide := true) only [refqb0]) only [refqb2, ↓brun_b, envOf, reduceIte, Nat.reduceEqDiff, Nat.reduceAdd, Nat.reduceSub, Nat.reduceMul, Nat.reduceBEq, Nat.reduceLeDiff, Nat.reduceLT, Int.reduceToNat, rho, frz1, ↓reduceIte]
  · simp -dsimp (decide := true) (disch := first | omega | simp (decide := true) only [refqb0]) only [refqb2, ↓brun_b, envOf, reduceIte, Nat.reduceEqDiff, Nat.reduceAdd, Nat.reduceSub, Nat.reduceMul, Nat.reduceBEq, Nat.reduceLeDiff, Nat.reduceLT, Int.reduceToNat, rho, frz1, ↓reduceIte]
def refqb3 :=
  (And.intro (And.intro (And.intro @List.length_cons.{0} @List.length_nil.{0}) (And.intro @Nat.zero_add @roL_in)) (And.intro (And.intro @roL_nil @roL_none) (And.intro @roL_row @ro_mk)))
def refqb4 :=
  (And.intro (And.intro refqc2 (And.intro refqc1 refqc3)) (And.intro refqc4 (And.intro @fh_flat @fk_flat)))
theorem refHear_ack_no (F : Frm) (k1 : decide (F.kind = 1) = false) (k2 : decide (F.kind = 2) = false) (k3 : decide (F.kind = 3) = true) (id pid : I16) (op : Bool) (mi mn pi pn nxi nxn kn gt : Int) (k : Nat) (ts : List (List UInt8))
    (hm : ((decide (F.ti = mi) && decide (F.tn = mn)) && (decide (F.fi = pi) && decide (F.fn = pn))) = false) :
    SCall Try.prog 108 [.ptr 0 0 0, .agg F.fc.c, .agg [.v (.int .i64 nxi), .v (.int .i64 nxn)]] [some (.row ⟨41, 1, false, 142, fun _ => RE.c ⟨id, .v (.bool true), .v (.bool op), .v (.int .i64 mi), .v (.int .i64 mn), .v (.int .i64 pi), .v (.int .i64 pn), pid, .slc 1 0 k, .v (.int .i64 kn), .v (.int .i64 gt)⟩⟩), some (.row ⟨1, k, false, 35, trow ts⟩)]
      fun r L => r = .ret (.agg [.v (.bool false), .v (.bool false), .v (.slice none 0 0), .v (.bool false), .v (.slice none 0 0)]) ∧ L = [none, none] := by
  simp only [Frm.fc]
  cases c1 : (decide (F.ti = mi) && decide (F.tn = mn))
  all_goals
    rw [c1] at hm
    simp only [Bool.false_and, Bool.true_and] at hm
    refine SCall.mk (fn := Try.f108) (by kernel_rfl) rfl (Nat.le_of_ble_eq_true (by kernel_rfl)) ?_
    refine Sem.go (k := 1000) ?_
    simp -dsimp (decide := true) (disch := first | omega | simp (decide := true) only [refqb0]) only [refqb1, ↓brun_b, envOf, reduceIte, Nat.reduceEqDiff, Nat.reduceAdd, Nat.reduceSub, Nat.reduceMul, Nat.reduceBEq, Nat.reduceLeDiff, Nat.reduceLT, Int.reduceToNat, rho, k1, k2, k3]
    refine Sem.draw' (by kernel_rfl) (.one 0 (.one 1 (.one 2 (.one 3 (.one 4 (.one 5 (.one 6 (.one 7 (.one 8 (.one 9 (.one 10 (.one 11 (.one 12 (.one 13 (.one 14 (.one 15 .done)))))))))))))))) [] (by kernel_rfl) (fun G ff hG hf => ?_)
    simp (decide := true) only [refqb3, Nat.reduceAdd] at hG ⊢
    simp -dsimp (decide := true) (disch := first | omega | simp (decide := true) only [refqb0]) only [refqb4, ↓brun_b, envOf, reduceIte, Nat.reduceEqDiff, Nat.reduceAdd, Nat.reduceSub, Nat.reduceMul, Nat.reduceBEq, Nat.reduceLeDiff, Nat.reduceLT, Int.reduceToNat, rho, sBin_agg .eql 23 _ _ _ (I16.cellsEq _ _), sBin_agg .eql 135 _ _ _ (ceq135 _ _ _ _), sBin_agg .eql 144 _ _ _ (ceq144 _ _ _ _), sBin_agg .eql 147 _ _ _ (ceq147 _ _ _ _), sBin_agg .neq 23 _ _ _ (I16.cellsEq _ _), sBin_agg .neq 135 _ _ _ (ceq135 _ _ _ _), hG, c1, hm]
    (repeat' refine And.intro (flat135 _ _ _ _) ?_)
    refine hf _ (Sem.go (k := 1000) ?_)
    simp (decide := true) only [back_mk, backL_in, backL_row, backL_none, backL_nil, Nat.zero_add, Nat.reduceAdd]
    simp -dsimp (decide := true) (disch := first | omega | simp (decide := true) only [refqb0]) only [refqb4, ↓brun_b, envOf, reduceIte, Nat.reduceEqDiff, Nat.reduceAdd, Nat.reduceSub, Nat.reduceMul, Nat.reduceBEq, Nat.reduceLeDiff, Nat.reduceLT, Int.reduceToNat, rho]
    refine SQ.runL (rs := [.cell 6 165]) [0, 1] _ _ rfl (And.intro rfl rfl) (by decide) rfl rfl ?_ ?_
    · simp -dsimp (decide := true) (disch := first | omega | simp (decide := true) only [refqb0]) only [refqb2, ↓brun_b, envOf, reduceIte, Nat.reduceEqDiff, Nat.reduceAdd, Nat.reduceSub, Nat.reduceMul, Nat.reduceBEq, Nat.reduceLeDiff, Nat.reduceLT, Int.reduceToNat, rho, frz1, ↓reduceIte]
    · simp -dsimp (decide := true) (disch := first | omega | simp (decide := true) only [refqb0]) only [refqb2, ↓brun_b, envOf, reduceIte, Nat.reduceEqDiff, Nat.reduceAdd, Nat.reduceSub, Nat.reduceMul, Nat.reduceBEq, Nat.reduceLeDiff, Nat.reduceLT, Int.reduceToNat, rho, frz1, ↓reduceIte]
theorem refHear_ack_old (F : Frm) (k1 : decide (F.kind = 1) = false) (k2 : decide (F.kind = 2) = false) (k3 : decide (F.kind = 3) = true) (id pid : I16) (op : Bool) (mi mn pi pn nxi nxn kn gt : Int) (k : Nat) (ts : List (List UInt8))
    (hm1 : (decide (F.ti = mi) && decide (F.tn = mn)) = true) (hm2 : (decide (F.fi = pi) && decide (F.fn = pn)) = true) (h : F.n ≤ kn ∨ (k : Int) < F.n) :
    SCall Try.prog 108 [.ptr 0 0 0, .agg F.fc.c, .agg [.v (.int .i64 nxi), .v (.int .i64 nxn)]] [some (.row ⟨41, 1, true, 142, fun _ => RE.c ⟨id, .v (.bool true), .v (.bool op), .v (.int .i64 mi), .v (.int .i64 mn), .v (.int .i64 pi), .v (.int .i64 pn), pid, .slc 1 0 k, .v (.int .i64 kn), .v (.int .i64 gt)⟩⟩), some (.row ⟨1, k, false, 35, trow ts⟩)]
      fun r L => r = .ret (.agg [.v (.bool false), .v (.bool (!op)), .v (.slice none 0 0), .v (.bool false), .v (.slice none 0 0)]) ∧ L = [some (.row ⟨41, 1, true, 142, fun _ => RE.c ⟨id, .v (.bool true), .v (.bool true), .v (.int .i64 mi), .v (.int .i64 mn), .v (.int .i64 pi), .v (.int .i64 pn), pid, .slc 1 0 k, .v (.int .i64 kn), .v (.int .i64 gt)⟩⟩), none] := by
  have hc := refAcked_noE id pid true true mi mn pi pn kn F.n gt k (trow ts) h
  simp only [Frm.fc] at hc ⊢
  refine SCall.mk (fn := Try.f108) (by kernel_rfl) rfl (Nat.le_of_ble_eq_true (by kernel_rfl)) ?_
  refine Sem.go (k := 1000) ?_
  simp -dsimp (decide := true) (disch := first | omega | simp (decide := true) only [refqb0]) only [refqb1, ↓brun_b, envOf, reduceIte, Nat.reduceEqDiff, Nat.reduceAdd, Nat.reduceSub, Nat.reduceMul, Nat.reduceBEq, Nat.reduceLeDiff, Nat.reduceLT, Int.reduceToNat, rho, k1, k2, k3]
  refine Sem.draw' (by kernel_rfl) (.one 0 (.one 1 (.one 2 (.one 3 (.one 4 (.one 5 (.one 6 (.one 7 (.one 8 (.one 9 (.one 10 (.one 11 (.one 12 (.one 13 (.one 14 (.one 15 .done)))))))))))))))) [] (by kernel_rfl) (fun G ff hG hf => ?_)
  simp (decide := true) only [refqb3, Nat.reduceAdd] at hG ⊢
  simp -dsimp (decide := true) (disch := first | omega | simp (decide := true) only [refqb0]) only [refqb4, ↓brun_b, envOf, reduceIte, Nat.reduceEqDiff, Nat.reduceAdd, Nat.reduceSub, Nat.reduceMul, Nat.reduceBEq, Nat.reduceLeDiff, Nat.reduceLT, Int.reduceToNat, rho, sBin_agg .eql 23 _ _ _ (I16.cellsEq _ _), sBin_agg .eql 135 _ _ _ (ceq135 _ _ _ _), sBin_agg .eql 144 _ _ _ (ceq144 _ _ _ _), sBin_agg .eql 147 _ _ _ (ceq147 _ _ _ _), sBin_agg .neq 23 _ _ _ (I16.cellsEq _ _), sBin_agg .neq 135 _ _ _ (ceq135 _ _ _ _), hG, hm1, hm2]
  (repeat' refine And.intro (flat135 _ _ _ _) ?_)
  refine hf _ (Sem.go (k := 1000) ?_)
  simp (decide := true) only [back_mk, backL_in, backL_row, backL_none, backL_nil, Nat.zero_add, Nat.reduceAdd]
  simp -dsimp (decide := true) (disch := first | omega | simp (decide := true) only [refqb0]) only [refqb4, ↓brun_b, envOf, reduceIte, Nat.reduceEqDiff, Nat.reduceAdd, Nat.reduceSub, Nat.reduceMul, Nat.reduceBEq, Nat.reduceLeDiff, Nat.reduceLT, Int.reduceToNat, rho]
  refine Sem.draw' (by kernel_rfl) (.one 0 (.one 1 (.one 2 (.one 3 (.one 4 (.alt 5 .done .non)))))) [0] (by kernel_rfl) (fun G ff hG hf => ?_)
  simp (decide := true) only [refqb3, Nat.reduceAdd] at hG ⊢
  simp -dsimp (decide := true) (disch := first | omega | simp (decide := true) only [refqb0]) only [refqb4, ↓brun_b, envOf, reduceIte, Nat.reduceEqDiff, Nat.reduceAdd, Nat.reduceSub, Nat.reduceMul, Nat.reduceBEq, Nat.reduceLeDiff, Nat.reduceLT, Int.reduceToNat, rho, hG]
  refine OpSem.callw [0, 1] cal.f53 (hc) rfl rfl (by simp -dsimp (decide := true) (disch := first | omega | simp (decide := true) only [refqb0]) only [refqb2, ↓brun_b, envOf, reduceIte, Nat.reduceEqDiff, Nat.reduceAdd, Nat.reduceSub, Nat.reduceMul, Nat.reduceBEq, Nat.reduceLeDiff, Nat.reduceLT, Int.reduceToNat, rho, frz1, ↓reduceIte]) rfl (by simp -dsimp (decide := true) (disch := first | omega | simp (decide := true) only [refqb0]) only [refqb2, ↓brun_b, envOf, reduceIte, Nat.reduceEqDiff, Nat.reduceAdd, Nat.reduceSub, Nat.reduceMul, Nat.reduceBEq, Nat.reduceLeDiff, Nat.reduceLT, Int.reduceToNat, rho, frz1, ↓reduceIte]) (by simp -dsimp (decide := true) (disch := first | omega | simp (decide := true) only [refqb0]) only [refqc4, ↓brun_b, envOf, reduceIte, Nat.reduceEqDiff, Nat.reduceAdd, Nat.reduceSub, Nat.reduceMul, Nat.reduceBEq, Nat.reduceLeDiff, Nat.reduceLT, Int.reduceToNat]) ?_
  simp -dsimp (decide := true) (disch := first | omega | simp (decide := true) only [refqb0]) only [refqb4, ↓brun_b, envOf, reduceIte, Nat.reduceEqDiff, Nat.reduceAdd, Nat.reduceSub, Nat.reduceMul, Nat.reduceBEq, Nat.reduceLeDiff, Nat.reduceLT, Int.reduceToNat, rho, hG]
  refine hf _ (Sem.go (k := 1000) ?_)
  simp (decide := true) only [back_mk, backL_in, backL_row, backL_none, backL_nil, Nat.zero_add, Nat.reduceAdd]
  simp -dsimp (decide := true) (disch := first | omega | simp (decide := true) only [refqb0]) only [refqb4, ↓brun_b, envOf, reduceIte, Nat.reduceEqDiff, Nat.reduceAdd, Nat.reduceSub, Nat.reduceMul, Nat.reduceBEq, Nat.reduceLeDiff, Nat.reduceLT, Int.reduceToNat, rho]
  refine SQ.runL (rs := [.cell 6 165]) [0, 1] _ _ rfl (And.intro rfl rfl) (by decide) rfl rfl ?_ ?_
  · simp -dsimp (decide := true) (disch := first | omega | simp (decide := true) only [refqb0]) only [refqb2, ↓brun_b, envOf, reduceIte, Nat.reduceEqDiff, Nat.reduceAdd, Nat.reduceSub, Nat.reduceMul, Nat.reduceBEq, Nat.reduceLeDiff, Nat.reduceLT, Int.reduceToNat, rho, frz1, ↓reduceIte]
  · simp -dsimp (decide := true) (disch := first | omega | simp (decide := true) only [refqb0]) only [refqb2, ↓brun_b, envOf, reduceIte, Nat.reduceEqDiff, Nat.reduceAdd, Nat.reduceSub, Nat.reduceMul, Nat.reduceBEq, Nat.reduceLeDiff, Nat.reduceLT, Int.reduceToNat, rho, frz1, ↓reduceIte]
theorem refHear_ack_new (F : Frm) (k1 : decide (F.kind = 1) = false) (k2 : decide (F.kind = 2) = false) (k3 : decide (F.kind = 3) = true) (id pid : I16) (op : Bool) (mi mn pi pn nxi nxn kn gt : Int) (k : Nat) (ts : List (List UInt8))
    (hm1 : (decide (F.ti = mi) && decide (F.tn = mn)) = true) (hm2 : (decide (F.fi = pi) && decide (F.fn = pn)) = true) (h0 : 0 ≤ kn) (h1 : kn < F.n) (h2 : F.n ≤ (k : Int)) (h3 : k < 4611686018427387904) :
    SCall Try.prog 108 [.ptr 0 0 0, .agg F.fc.c, .agg [.v (.int .i64 nxi), .v (.int .i64 nxn)]] [some (.row ⟨41, 1, true, 142, fun _ => RE.c ⟨id, .v (.bool true), .v (.bool op), .v (.int .i64 mi), .v (.int .i64 mn), .v (.int .i64 pi), .v (.int .i64 pn), pid, .slc 1 0 k, .v (.int .i64 kn), .v (.int .i64 gt)⟩⟩), some (.row ⟨1, k, false, 35, trow ts⟩)]
      fun r L => r = .ret (.agg [.v (.bool false), .v (.bool (!op)), .v (.slice none 0 0), .v (.bool false), .v (.slice none 0 0)]) ∧ L = [some (.row ⟨41, 1, true, 142, fun _ => RE.c ⟨id, .v (.bool true), .v (.bool true), .v (.int .i64 mi), .v (.int .i64 mn), .v (.int .i64 pi), .v (.int .i64 pn), pid, .slc 1 0 k, .v (.int .i64 F.n), .v (.int .i64 gt)⟩⟩), none] := by
  have hc := refAcked_yesE id pid true true mi mn pi pn kn F.n gt k (trow ts) h0 h1 h2 h3
  simp only [Frm.fc] at hc ⊢
  refine SCall.mk (fn := Try.f108) (by kernel_rfl) rfl (Nat.le_of_ble_eq_true (by kernel_rfl)) ?_
  refine Sem.go (k := 1000) ?_
  simp -dsimp (decide := true) (disch := first | omega | simp (decide := true) only [refqb0]) only [refqb1, ↓brun_b, envOf, reduceIte, Nat.reduceEqDiff, Nat.reduceAdd, Nat.reduceSub, Nat.reduceMul, Nat.reduceBEq, Nat.reduceLeDiff, Nat.reduceLT, Int.reduceToNat, rho, k1, k2, k3]
  refine Sem.draw' (by kernel_rfl) (.one 0 (.one 1 (.one 2 (.one 3 (.one 4 (.one 5 (.one 6 (.one 7 (.one 8 (.one 9 (.one 10 (.one 11 (.one 12 (.one 13 (.one 14 (.one 15 .done)))))))))))))))) [] (by kernel_rfl) (fun G ff hG hf => ?_)
  simp (decide := true) only [refqb3, Nat.reduceAdd] at hG ⊢
  simp -dsimp (decide := true) (disch := first | omega | simp (decide := true) only [refqb0]) only [refqb4, ↓brun_b, envOf, reduceIte, Nat.reduceEqDiff, Nat.reduceAdd, Nat.reduceSub, Nat.reduceMul, Nat.reduceBEq, Nat.reduceLeDiff, Nat.reduceLT, Int.reduceToNat, rho, sBin_agg .eql 23 _ _ _ (I16.cellsEq _ _), sBin_agg .eql 135 _ _ _ (ceq135 _ _ _ _), sBin_agg .eql 144 _ _ _ (ceq144 _ _ _ _), sBin_agg .eql 147 _ _ _ (ceq147 _ _ _ _), sBin_agg .neq 23 _ _ _ (I16.cellsEq _ _), sBin_agg .neq 135 _ _ _ (ceq135 _ _ _ _), hG, hm1, hm2]
  (repeat' refine And.intro (flat135 _ _ _ _) ?_)
  refine hf _ (Sem.go (k := 1000) ?_)
  simp (decide := true) only [back_mk, backL_in, backL_row, backL_none, backL_nil, Nat.zero_add, Nat.reduceAdd]
  simp -dsimp (decide := true) (disch := first | omega | simp (decide := true) only [refqb0]) only [refqb4, ↓brun_b, envOf, reduceIte, Nat.reduceEqDiff, Nat.reduceAdd, Nat.reduceSub, Nat.reduceMul, Nat.reduceBEq, Nat.reduceLeDiff, Nat.reduceLT, Int.reduceToNat, rho]
  refine Sem.draw' (by kernel_rfl) (.one 0 (.one 1 (.one 2 (.one 3 (.one 4 (.alt 5 .done .non)))))) [0] (by kernel_rfl) (fun G ff hG hf => ?_)
  simp (decide := true) only [refqb3, Nat.reduceAdd] at hG ⊢
  simp -dsimp (decide := true) (disch := first | omega | simp (decide := true) only [refqb0]) only [refqb4, ↓brun_b, envOf, reduceIte, Nat.reduceEqDiff, Nat.reduceAdd, Nat.reduceSub, Nat.reduceMul, Nat.reduceBEq, Nat.reduceLeDiff, Nat.reduceLT, Int.reduceToNat, rho, hG]
  refine OpSem.callw [0, 1] cal.f53 (hc) rfl rfl (by simp -dsimp (decide := true) (disch := first | omega | simp (decide := true) only [refqb0]) only [refqb2, ↓brun_b, envOf, reduceIte, Nat.reduceEqDiff, Nat.reduceAdd, Nat.reduceSub, Nat.reduceMul, Nat.reduceBEq, Nat.reduceLeDiff, Nat.reduceLT, Int.reduceToNat, rho, frz1, ↓reduceIte]) rfl (by simp -dsimp (decide := true) (disch := first | omega | simp (decide := true) only [refqb0]) only [refqb2, ↓brun_b, envOf, reduceIte, Nat.reduceEqDiff, Nat.reduceAdd, Nat.reduceSub, Nat.reduceMul, Nat.reduceBEq, Nat.reduceLeDiff, Nat.reduceLT, Int.reduceToNat, rho, frz1, ↓reduceIte]) (by simp -dsimp (decide := true) (disch := first | omega | simp (decide := true) only [refqb0]) only [refqc4, ↓brun_b, envOf, reduceIte, Nat.reduceEqDiff, Nat.reduceAdd, Nat.reduceSub, Nat.reduceMul, Nat.reduceBEq, Nat.reduceLeDiff, Nat.reduceLT, Int.reduceToNat]) ?_
  simp -dsimp (decide := true) (disch := first | omega | simp (decide := true) only [refqb0]) only [refqb4, ↓brun_b, envOf, reduceIte, Nat.reduceEqDiff, Nat.reduceAdd, Nat.reduceSub, Nat.reduceMul, Nat.reduceBEq, Nat.reduceLeDiff, Nat.reduceLT, Int.reduceToNat, rho, hG]
  refine hf _ (Sem.go (k := 1000) ?_)
  simp (decide := true) only [back_mk, backL_in, backL_row, backL_none, backL_nil, Nat.zero_add, Nat.reduceAdd]
  simp -dsimp (decide := true) (disch := first | omega | simp (decide := true) only [refqb0]) only [refqb4, ↓brun_b, envOf, reduceIte, Nat.reduceEqDiff, Nat.reduceAdd, Nat.reduceSub, Nat.reduceMul, Nat.reduceBEq, Nat.reduceLeDiff, Nat.reduceLT, Int.reduceToNat, rho]
  refine SQ.runL (rs := [.cell 6 165]) [0, 1] _ _ rfl (And.intro rfl rfl) (by decide) rfl rfl ?_ ?_
  · simp -dsimp (decide := true) (disch := first | omega | simp (decide := true) only [refqb0]) only [refqb2, ↓brun_b, envOf, reduceIte, Nat.reduceEqDiff, Nat.reduceAdd, Nat.reduceSub, Nat.reduceMul, Nat.reduceBEq, Nat.reduceLeDiff, Nat.reduceLT, Int.reduceToNat, rho, frz1, ↓reduceIte]
  · simp -dsimp (decide := true) (disch := first | omega | simp (decide := true) only [refqb0]) only [refqb2, ↓brun_b, envOf, reduceIte, Nat.reduceEqDiff, Nat.reduceAdd, Nat.reduceSub, Nat.reduceMul, Nat.reduceBEq, Nat.reduceLeDiff, Nat.reduceLT, Int.reduceToNat, rho, frz1, ↓reduceIte]
end Go.Proofs
namespace Go.Proofs
open Go Go.SL
set_option maxRecDepth 100000
theorem refHear_data_no (F : Frm) (k1 : decide (F.kind = 1) = false) (k2 : decide (F.kind = 2) = true) (id pid : I16) (op : Bool) (mi mn pi pn nxi nxn kn gt : Int) (k : Nat) (ts : List (List UInt8))
    (hm : ((decide (F.ti = mi) && decide (F.tn = mn)) && (decide (F.fi = pi) && decide (F.fn = pn))) = false) :
    SCall Try.prog 108 [.ptr 0 0 0, .agg F.fc.c, .agg [.v (.int .i64 nxi), .v (.int .i64 nxn)]] [some (.row ⟨41, 1, false, 142, fun _ => RE.c ⟨id, .v (.bool true), .v (.bool op), .v (.int .i64 mi), .v (.int .i64 mn), .v (.int .i64 pi), .v (.int .i64 pn), pid, .slc 1 0 k, .v (.int .i64 kn), .v (.int .i64 gt)⟩⟩), some (.row ⟨1, k, false, 35, trow ts⟩)]
      fun r L => r = .ret (.agg [.v (.bool false), .v (.bool false), .v (.slice none 0 0), .v (.bool false), .v (.slice none 0 0)]) ∧ L = [none, none] := by
  simp only [Frm.fc]
  cases c1 : (decide (F.ti = mi) && decide (F.tn = mn))
  all_goals
    rw [c1] at hm
    simp only [Bool.false_and, Bool.true_and] at hm
    refine SCall.mk (fn := Try.f108) (by kernel_rfl) rfl (Nat.le_of_ble_eq_true (by kernel_rfl)) ?_
    refine Sem.go (k := 1000) ?_
    simp -dsimp (decide := true) (disch := first | omega | simp (decide := true) only [refqb0]) only [refqb1, ↓brun_b, envOf, reduceIte, Nat.reduceEqDiff, Nat.reduceAdd, Nat.reduceSub, Nat.reduceMul, Nat.reduceBEq, Nat.reduceLeDiff, Nat.reduceLT, Int.reduceToNat, rho, k1, k2]
    refine Sem.draw' (by kernel_rfl) (.one 0 (.one 1 (.one 2 (.one 3 (.one 4 (.one 5 (.one 6 (.one 7 (.one 8 (.one 9 (.one 10 (.one 11 (.one 12 (.one 13 (.one 14 (.one 15 .done)))))))))))))))) [] (by kernel_rfl) (fun G ff hG hf => ?_)
    simp (decide := true) only [refqb3, Nat.reduceAdd] at hG ⊢
    simp -dsimp (decide := true) (disch := first | omega | simp (decide := true) only [refqb0]) only [refqb4, ↓brun_b, envOf, reduceIte, Nat.reduceEqDiff, Nat.reduceAdd, Nat.reduceSub, Nat.reduceMul, Nat.reduceBEq, Nat.reduceLeDiff, Nat.reduceLT, Int.reduceToNat, rho, sBin_agg .eql 23 _ _ _ (I16.cellsEq _ _), sBin_agg .eql 135 _ _ _ (ceq135 _ _ _ _), sBin_agg .eql 144 _ _ _ (ceq144 _ _ _ _), sBin_agg .eql 147 _ _ _ (ceq147 _ _ _ _), sBin_agg .neq 23 _ _ _ (I16.cellsEq _ _), sBin_agg .neq 135 _ _ _ (ceq135 _ _ _ _), hG, c1, hm]
    (repeat' refine And.intro (flat135 _ _ _ _) ?_)
    refine hf _ (Sem.go (k := 1000) ?_)
    simp (decide := true) only [back_mk, backL_in, backL_row, backL_none, backL_nil, Nat.zero_add, Nat.reduceAdd]
    simp -dsimp (decide := true) (disch := first | omega | simp (decide := true) only [refqb0]) only [refqb4, ↓brun_b, envOf, reduceIte, Nat.reduceEqDiff, Nat.reduceAdd, Nat.reduceSub, Nat.reduceMul, Nat.reduceBEq, Nat.reduceLeDiff, Nat.reduceLT, Int.reduceToNat, rho]
    refine SQ.runL (rs := [.cell 6 165]) [0, 1] _ _ rfl (And.intro rfl rfl) (by decide) rfl rfl ?_ ?_
    · simp -dsimp (decide := true) (disch := first | omega | simp (decide := true) only [refqb0]) only [refqb2, ↓brun_b, envOf, reduceIte, Nat.reduceEqDiff, Nat.reduceAdd, Nat.reduceSub, Nat.reduceMul, Nat.reduceBEq, Nat.reduceLeDiff, Nat.reduceLT, Int.reduceToNat, rho, frz1, ↓reduceIte]
    · simp -dsimp (decide := true) (disch := first | omega | simp (decide := true) only [refqb0]) only [refqb2, ↓brun_b, envOf, reduceIte, Nat.reduceEqDiff, Nat.reduceAdd, Nat.reduceSub, Nat.reduceMul, Nat.reduceBEq, Nat.reduceLeDiff, Nat.reduceLT, Int.reduceToNat, rho, frz1, ↓reduceIte]
def refqb6 :=
  (And.intro (And.intro refqc2 (And.intro refqc1 refqc3)) (And.intro (And.intro refqc4 @bs124) (And.intro @fh_flat @fk_flat)))
def refqb7 :=
  (And.intro (And.intro (And.intro refqc2 refqc1) (And.intro refqc3 (And.intro refqc4 @bwk_a))) (And.intro (And.intro @eq_self.{1} (And.intro @fh_flat @fk_flat)) (And.intro @forall_const.{1} (And.intro @implies_true.{0} @implies_true.{1}))))
def refqb8 :=
  (And.intro (And.intro refqc2 (And.intro refqc1 refqc3)) (And.intro (And.intro refqc4 @bs35_0) (And.intro @fh_flat @fk_flat)))
set_option maxHeartbeats 2000000 in
theorem refHear_data (F : Frm) (k1 : decide (F.kind = 1) = false) (k2 : decide (F.kind = 2) = true) (hl : F.tx.length ≤ 140737488355328) (id pid : I16) (op : Bool) (mi mn pi pn nxi nxn kn g2 : Int) (gt : Nat) (k : Nat) (ts : List (List UInt8)) (hg : (gt : Int) < 4611686018427387904)
    (hm1 : (decide (F.ti = mi) && decide (F.tn = mn)) = true) (hm2 : (decide (F.fi = pi) && decide (F.fn = pn)) = true) (cm : Bool) (hcm : decide (F.n = (gt : Int) + 1) = cm) (hg2 : g2 = bif cm then (gt : Int) + 1 else gt) :
    SCall Try.prog 108 [.ptr 0 0 0, .agg F.fc.c, .agg [.v (.int .i64 nxi), .v (.int .i64 nxn)]] [some (.row ⟨41, 1, true, 142, fun _ => RE.c ⟨id, .v (.bool true), .v (.bool op), .v (.int .i64 mi), .v (.int .i64 mn), .v (.int .i64 pi), .v (.int .i64 pn), pid, .slc 1 0 k, .v (.int .i64 kn), .v (.int .i64 gt)⟩⟩), some (.row ⟨1, k, false, 35, trow ts⟩)]
      fun r L => r = .ret (.agg [.v (.bool false), .v (.bool (!op)), (bif cm then bsl F.tx else .v (.slice none 0 0)), .v (.bool cm), .slc 2 0 1]) ∧ L = [some (.row ⟨41, 1, true, 142, fun _ => RE.c ⟨id, .v (.bool true), .v (.bool true), .v (.int .i64 mi), .v (.int .i64 mn), .v (.int .i64 pi), .v (.int .i64 pn), pid, .slc 1 0 k, .v (.int .i64 kn), .v (.int .i64 g2)⟩⟩), none, some (.row ⟨95, 1, true, 151, fun _ => FC.c { zF with kind := .v (.int .i64 3), fi := .v (.int .i64 mi), fn := .v (.int .i64 mn), ti := .v (.int .i64 pi), tn := .v (.int .i64 pn), n := .v (.int .i64 g2) }⟩)] := by
  have hc := refCame_callsE id pid true true mi mn pi pn kn F.n gt k (trow ts) hg
  simp only [Frm.fc] at hc ⊢
  have e : ((if F.n = (gt : Int) + 1 then gt + 1 else gt : Nat) : Int) = g2 := by
    rw [hg2, ← hcm]
    by_cases h : F.n = (gt : Int) + 1 <;> simp [h]
  rw [hcm, e] at hc
  clear hcm hg2 e
  cases cm
  · simp only [cond_false]
    refine SCall.mk (fn := Try.f108) (by kernel_rfl) rfl (Nat.le_of_ble_eq_true (by kernel_rfl)) ?_
    refine Sem.go (k := 1000) ?_
    simp -dsimp (decide := true) (disch := first | omega | simp (decide := true) only [refqb0]) only [refqb1, ↓brun_b, envOf, reduceIte, Nat.reduceEqDiff, Nat.reduceAdd, Nat.reduceSub, Nat.reduceMul, Nat.reduceBEq, Nat.reduceLeDiff, Nat.reduceLT, Int.reduceToNat, rho, k1, k2]
    refine Sem.draw' (by kernel_rfl) (.one 0 (.one 1 (.one 2 (.one 3 (.one 4 (.one 5 (.one 6 (.one 7 (.one 8 (.one 9 (.one 10 (.one 11 (.one 12 (.one 13 (.one 14 (.one 15 .done)))))))))))))))) [] (by kernel_rfl) (fun G ff hG hf => ?_)
    simp (decide := true) only [refqb3, Nat.reduceAdd] at hG ⊢
    simp -dsimp (decide := true) (disch := first | omega | simp (decide := true) only [refqb0]) only [refqb4, ↓brun_b, envOf, reduceIte, Nat.reduceEqDiff, Nat.reduceAdd, Nat.reduceSub, Nat.reduceMul, Nat.reduceBEq, Nat.reduceLeDiff, Nat.reduceLT, Int.reduceToNat, rho, sBin_agg .eql 23 _ _ _ (I16.cellsEq _ _), sBin_agg .eql 135 _ _ _ (ceq135 _ _ _ _), sBin_agg .eql 144 _ _ _ (ceq144 _ _ _ _), sBin_agg .eql 147 _ _ _ (ceq147 _ _ _ _), sBin_agg .neq 23 _ _ _ (I16.cellsEq _ _), sBin_agg .neq 135 _ _ _ (ceq135 _ _ _ _), hG, hm1, hm2]
    (repeat' refine And.intro (flat135 _ _ _ _) ?_)
    refine hf _ (Sem.go (k := 1000) ?_)
    simp (decide := true) only [back_mk, backL_in, backL_row, backL_none, backL_nil, Nat.zero_add, Nat.reduceAdd]
    simp -dsimp (decide := true) (disch := first | omega | simp (decide := true) only [refqb0]) only [refqb4, ↓brun_b, envOf, reduceIte, Nat.reduceEqDiff, Nat.reduceAdd, Nat.reduceSub, Nat.reduceMul, Nat.reduceBEq, Nat.reduceLeDiff, Nat.reduceLT, Int.reduceToNat, rho]
    refine Sem.draw' (by kernel_rfl) (.one 0 (.one 1 (.one 2 (.one 3 (.one 4 (.alt 5 .done .non)))))) [0] (by kernel_rfl) (fun G ff hG hf => ?_)
    simp (decide := true) only [refqb3, Nat.reduceAdd] at hG ⊢
    simp -dsimp (decide := true) (disch := first | omega | simp (decide := true) only [refqb0]) only [refqb4, ↓brun_b, envOf, reduceIte, Nat.reduceEqDiff, Nat.reduceAdd, Nat.reduceSub, Nat.reduceMul, Nat.reduceBEq, Nat.reduceLeDiff, Nat.reduceLT, Int.reduceToNat, rho, hG]
    refine OpSem.callw [0, 1] cal.f55 (hc) rfl rfl (by simp -dsimp (decide := true) (disch := first | omega | simp (decide := true) only [refqb0]) only [refqb2, ↓brun_b, envOf, reduceIte, Nat.reduceEqDiff, Nat.reduceAdd, Nat.reduceSub, Nat.reduceMul, Nat.reduceBEq, Nat.reduceLeDiff, Nat.reduceLT, Int.reduceToNat, rho, frz1, ↓reduceIte]) rfl (by simp -dsimp (decide := true) (disch := first | omega | simp (decide := true) only [refqb0]) only [refqb2, ↓brun_b, envOf, reduceIte, Nat.reduceEqDiff, Nat.reduceAdd, Nat.reduceSub, Nat.reduceMul, Nat.reduceBEq, Nat.reduceLeDiff, Nat.reduceLT, Int.reduceToNat, rho, frz1, ↓reduceIte]) (by simp -dsimp (decide := true) (disch := first | omega | simp (decide := true) only [refqb0]) only [refqc4, ↓brun_b, envOf, reduceIte, Nat.reduceEqDiff, Nat.reduceAdd, Nat.reduceSub, Nat.reduceMul, Nat.reduceBEq, Nat.reduceLeDiff, Nat.reduceLT, Int.reduceToNat]) ?_
    simp -dsimp (decide := true) (disch := first | omega | simp (decide := true) only [refqb0]) only [refqb4, ↓brun_b, envOf, reduceIte, Nat.reduceEqDiff, Nat.reduceAdd, Nat.reduceSub, Nat.reduceMul, Nat.reduceBEq, Nat.reduceLeDiff, Nat.reduceLT, Int.reduceToNat, rho, hG]
    refine hf _ (Sem.go (k := 1000) ?_)
    simp (decide := true) only [back_mk, backL_in, backL_row, backL_none, backL_nil, Nat.zero_add, Nat.reduceAdd]
    simp -dsimp (decide := true) (disch := first | omega | simp (decide := true) only [refqb0]) only [refqb4, ↓brun_b, envOf, reduceIte, Nat.reduceEqDiff, Nat.reduceAdd, Nat.reduceSub, Nat.reduceMul, Nat.reduceBEq, Nat.reduceLeDiff, Nat.reduceLT, Int.reduceToNat, rho]
    refine Sem.draw' (by kernel_rfl) (.one 0 (.one 1 (.one 2 (.one 3 (.one 4 (.one 5 (.one 6 (.one 7 (.one 8 (.one 9 (.one 10 (.one 11 (.one 12 (.one 13 (.alt 14 (.one 15 (.alt 16 .done .non)) .non))))))))))))))) [5] (by kernel_rfl) (fun G ff hG hf => ?_)
    simp (decide := true) only [refqb3, Nat.reduceAdd] at hG ⊢
    simp -dsimp (decide := true) (disch := first | omega | simp (decide := true) only [refqb0]) only [refqb6, ↓brun_b, envOf, reduceIte, Nat.reduceEqDiff, Nat.reduceAdd, Nat.reduceSub, Nat.reduceMul, Nat.reduceBEq, Nat.reduceLeDiff, Nat.reduceLT, Int.reduceToNat, rho, hG]
    (repeat' refine And.intro ?_ ?_)
    all_goals
      refine hf _ (Sem.go (k := 1000) ?_)
      simp (decide := true) only [back_mk, backL_in, backL_row, backL_none, backL_nil, Nat.zero_add, Nat.reduceAdd]
      simp -dsimp (decide := true) (disch := first | omega | simp (decide := true) only [refqb0]) only [refqb4, ↓brun_b, envOf, reduceIte, Nat.reduceEqDiff, Nat.reduceAdd, Nat.reduceSub, Nat.reduceMul, Nat.reduceBEq, Nat.reduceLeDiff, Nat.reduceLT, Int.reduceToNat, rho]
      refine SQ.runL (rs := [.cell 6 165]) [0, 1, 6] _ _ rfl (And.intro rfl rfl) (by decide) rfl rfl ?_ ?_
      · simp -dsimp (decide := true) (disch := first | omega | simp (decide := true) only [refqb0]) only [refqb2, ↓brun_b, envOf, reduceIte, Nat.reduceEqDiff, Nat.reduceAdd, Nat.reduceSub, Nat.reduceMul, Nat.reduceBEq, Nat.reduceLeDiff, Nat.reduceLT, Int.reduceToNat, rho, frz1, ↓reduceIte]
        exact fun e he => one124 _ e he (fk_flat _ _ _ _ _)
      · simp -dsimp (decide := true) (disch := first | omega | simp (decide := true) only [refqb0]) only [refqb7, ↓brun_b, envOf, reduceIte, Nat.reduceEqDiff, Nat.reduceAdd, Nat.reduceSub, Nat.reduceMul, Nat.reduceBEq, Nat.reduceLeDiff, Nat.reduceLT, Int.reduceToNat, rho, frz1, ↓reduceIte]
  · simp only [cond_true]
    refine SCall.mk (fn := Try.f108) (by kernel_rfl) rfl (Nat.le_of_ble_eq_true (by kernel_rfl)) ?_
    refine Sem.go (k := 1000) ?_
    simp -dsimp (decide := true) (disch := first | omega | simp (decide := true) only [refqb0]) only [refqb1, ↓brun_b, envOf, reduceIte, Nat.reduceEqDiff, Nat.reduceAdd, Nat.reduceSub, Nat.reduceMul, Nat.reduceBEq, Nat.reduceLeDiff, Nat.reduceLT, Int.reduceToNat, rho, k1, k2]
    refine Sem.draw' (by kernel_rfl) (.one 0 (.one 1 (.one 2 (.one 3 (.one 4 (.one 5 (.one 6 (.one 7 (.one 8 (.one 9 (.one 10 (.one 11 (.one 12 (.one 13 (.one 14 (.one 15 .done)))))))))))))))) [] (by kernel_rfl) (fun G ff hG hf => ?_)
    simp (decide := true) only [refqb3, Nat.reduceAdd] at hG ⊢
    simp -dsimp (decide := true) (disch := first | omega | simp (decide := true) only [refqb0]) only [refqb4, ↓brun_b, envOf, reduceIte, Nat.reduceEqDiff, Nat.reduceAdd, Nat.reduceSub, Nat.reduceMul, Nat.reduceBEq, Nat.reduceLeDiff, Nat.reduceLT, Int.reduceToNat, rho, sBin_agg .eql 23 _ _ _ (I16.cellsEq _ _), sBin_agg .eql 135 _ _ _ (ceq135 _ _ _ _), sBin_agg .eql 144 _ _ _ (ceq144 _ _ _ _), sBin_agg .eql 147 _ _ _ (ceq147 _ _ _ _), sBin_agg .neq 23 _ _ _ (I16.cellsEq _ _), sBin_agg .neq 135 _ _ _ (ceq135 _ _ _ _), hG, hm1, hm2]
    (repeat' refine And.intro (flat135 _ _ _ _) ?_)
    refine hf _ (Sem.go (k := 1000) ?_)
    simp (decide := true) only [back_mk, backL_in, backL_row, backL_none, backL_nil, Nat.zero_add, Nat.reduceAdd]
    simp -dsimp (decide := true) (disch := first | omega | simp (decide := true) only [refqb0]) only [refqb4, ↓brun_b, envOf, reduceIte, Nat.reduceEqDiff, Nat.reduceAdd, Nat.reduceSub, Nat.reduceMul, Nat.reduceBEq, Nat.reduceLeDiff, Nat.reduceLT, Int.reduceToNat, rho]
    refine Sem.draw' (by kernel_rfl) (.one 0 (.one 1 (.one 2 (.one 3 (.one 4 (.alt 5 .done .non)))))) [0] (by kernel_rfl) (fun G ff hG hf => ?_)
    simp (decide := true) only [refqb3, Nat.reduceAdd] at hG ⊢
    simp -dsimp (decide := true) (disch := first | omega | simp (decide := true) only [refqb0]) only [refqb4, ↓brun_b, envOf, reduceIte, Nat.reduceEqDiff, Nat.reduceAdd, Nat.reduceSub, Nat.reduceMul, Nat.reduceBEq, Nat.reduceLeDiff, Nat.reduceLT, Int.reduceToNat, rho, hG]
    refine OpSem.callw [0, 1] cal.f55 (hc) rfl rfl (by simp -dsimp (decide := true) (disch := first | omega | simp (decide := true) only [refqb0]) only [refqb2, ↓brun_b, envOf, reduceIte, Nat.reduceEqDiff, Nat.reduceAdd, Nat.reduceSub, Nat.reduceMul, Nat.reduceBEq, Nat.reduceLeDiff, Nat.reduceLT, Int.reduceToNat, rho, frz1, ↓reduceIte]) rfl (by simp -dsimp (decide := true) (disch := first | omega | simp (decide := true) only [refqb0]) only [refqb2, ↓brun_b, envOf, reduceIte, Nat.reduceEqDiff, Nat.reduceAdd, Nat.reduceSub, Nat.reduceMul, Nat.reduceBEq, Nat.reduceLeDiff, Nat.reduceLT, Int.reduceToNat, rho, frz1, ↓reduceIte]) (by simp -dsimp (decide := true) (disch := first | omega | simp (decide := true) only [refqb0]) only [refqc4, ↓brun_b, envOf, reduceIte, Nat.reduceEqDiff, Nat.reduceAdd, Nat.reduceSub, Nat.reduceMul, Nat.reduceBEq, Nat.reduceLeDiff, Nat.reduceLT, Int.reduceToNat]) ?_
    simp -dsimp (decide := true) (disch := first | omega | simp (decide := true) only [refqb0]) only [refqb4, ↓brun_b, envOf, reduceIte, Nat.reduceEqDiff, Nat.reduceAdd, Nat.reduceSub, Nat.reduceMul, Nat.reduceBEq, Nat.reduceLeDiff, Nat.reduceLT, Int.reduceToNat, rho, hG]
    refine hf _ (Sem.go (k := 1000) ?_)
    simp (decide := true) only [back_mk, backL_in, backL_row, backL_none, backL_nil, Nat.zero_add, Nat.reduceAdd]
    simp -dsimp (decide := true) (disch := first | omega | simp (decide := true) only [refqb0]) only [refqb8, ↓brun_b, envOf, reduceIte, Nat.reduceEqDiff, Nat.reduceAdd, Nat.reduceSub, Nat.reduceMul, Nat.reduceBEq, Nat.reduceLeDiff, Nat.reduceLT, Int.reduceToNat, rho, sapp1_sl el5, hl, Nat.le_refl]
    refine Sem.draw' (by kernel_rfl) (.one 0 (.one 1 (.one 2 (.one 3 (.one 4 (.one 5 (.one 6 (.one 7 (.one 8 (.one 9 (.one 10 (.one 11 (.one 12 (.one 13 (.alt 14 (.one 15 (.alt 16 .done .non)) .non))))))))))))))) [5] (by kernel_rfl) (fun G ff hG hf => ?_)
    simp (decide := true) only [refqb3, Nat.reduceAdd] at hG ⊢
    simp -dsimp (decide := true) (disch := first | omega | simp (decide := true) only [refqb0]) only [refqb6, ↓brun_b, envOf, reduceIte, Nat.reduceEqDiff, Nat.reduceAdd, Nat.reduceSub, Nat.reduceMul, Nat.reduceBEq, Nat.reduceLeDiff, Nat.reduceLT, Int.reduceToNat, rho, hG]
    (repeat' refine And.intro ?_ ?_)
    all_goals
      refine hf _ (Sem.go (k := 1000) ?_)
      simp (decide := true) only [back_mk, backL_in, backL_row, backL_none, backL_nil, Nat.zero_add, Nat.reduceAdd]
      simp -dsimp (decide := true) (disch := first | omega | simp (decide := true) only [refqb0]) only [refqb4, ↓brun_b, envOf, reduceIte, Nat.reduceEqDiff, Nat.reduceAdd, Nat.reduceSub, Nat.reduceMul, Nat.reduceBEq, Nat.reduceLeDiff, Nat.reduceLT, Int.reduceToNat, rho]
      refine SQ.runL (rs := [.cell 6 165]) [0, 1, 8] _ _ rfl (And.intro rfl rfl) (by decide) rfl rfl ?_ ?_
      · simp -dsimp (decide := true) (disch := first | omega | simp (decide := true) only [refqb0]) only [refqb2, ↓brun_b, envOf, reduceIte, Nat.reduceEqDiff, Nat.reduceAdd, Nat.reduceSub, Nat.reduceMul, Nat.reduceBEq, Nat.reduceLeDiff, Nat.reduceLT, Int.reduceToNat, rho, frz1, ↓reduceIte]
        exact fun e he => one124 _ e he (fk_flat _ _ _ _ _)
      · simp -dsimp (decide := true) (disch := first | omega | simp (decide := true) only [refqb0]) only [refqb7, ↓brun_b, envOf, reduceIte, Nat.reduceEqDiff, Nat.reduceAdd, Nat.reduceSub, Nat.reduceMul, Nat.reduceBEq, Nat.reduceLeDiff, Nat.reduceLT, Int.reduceToNat, rho, frz1, ↓reduceIte]
        exact Ent_row rfl rfl (brows_length _).symm (by omega) fun i r hr => app_row2 _ (flatR_brows _) [] i r hr
end Go.Proofs
namespace Go.Proofs
open Go Go.SL
set_option maxRecDepth 100000
theorem build54r : sBuild Try.prog 54 [] = some ⟨.agg [.v (.slice none 0 0), .v (.int .i64 0), .v (.int .i64 0)], {}, True⟩ := by
  rw [sBuild_eq, tab.z54, tab.l54]
  rfl
def refqb9 :=
  (And.intro refqc0 (And.intro @fh_flat @fk_flat))
theorem refHear_bad (F : Frm) (k1 : decide (F.kind = 1) = true) (id pid : I16) (op : Bool) (mi mn pi pn nxi nxn kn gt : Int) (k : Nat) (ts : List (List UInt8))
    (hb : ((decide (F.fi < pi) || (decide (F.fi = pi) && decide (F.fn < pn))) || (decide (F.fi = 0) && decide (F.fn = 0))) = true) :
    SCall Try.prog 108 [.ptr 0 0 0, .agg F.fc.c, .agg [.v (.int .i64 nxi), .v (.int .i64 nxn)]] [some (.row ⟨41, 1, false, 142, fun _ => RE.c ⟨id, .v (.bool true), .v (.bool op), .v (.int .i64 mi), .v (.int .i64 mn), .v (.int .i64 pi), .v (.int .i64 pn), pid, .slc 1 0 k, .v (.int .i64 kn), .v (.int .i64 gt)⟩⟩), some (.row ⟨1, k, false, 35, trow ts⟩)]
      fun r L => r = .ret (.agg [.v (.bool false), .v (.bool false), .v (.slice none 0 0), .v (.bool false), .v (.slice none 0 0)]) ∧ L = [none, none] := by
  simp only [Frm.fc]
  cases c1 : (decide (F.fi < pi) || (decide (F.fi = pi) && decide (F.fn < pn)))
  all_goals
    rw [c1] at hb
    simp only [Bool.false_or, Bool.true_or] at hb
    refine SCall.mk (fn := Try.f108) (by kernel_rfl) rfl (Nat.le_of_ble_eq_true (by kernel_rfl)) ?_
    refine Sem.go (k := 1000) ?_
    simp -dsimp (decide := true) (disch := first | omega | simp (decide := true) only [refqb0]) only [refqb1, ↓brun_b, envOf, reduceIte, Nat.reduceEqDiff, Nat.reduceAdd, Nat.reduceSub, Nat.reduceMul, Nat.reduceBEq, Nat.reduceLeDiff, Nat.reduceLT, Int.reduceToNat, rho, k1]
    refine Sem.draw' (by kernel_rfl) (.one 0 (.one 1 (.one 2 (.one 3 (.one 4 (.one 5 (.alt 6 (.one 7 (.one 8 (.one 9 (.one 10 (.one 11 (.one 12 .done)))))) .non))))))) [] (by kernel_rfl) (fun G ff hG hf => ?_)
    simp (decide := true) only [refqb3, Nat.reduceAdd] at hG ⊢
    simp -dsimp (decide := true) (disch := first | omega | simp (decide := true) only [refqb0]) only [refqb4, ↓brun_b, envOf, reduceIte, Nat.reduceEqDiff, Nat.reduceAdd, Nat.reduceSub, Nat.reduceMul, Nat.reduceBEq, Nat.reduceLeDiff, Nat.reduceLT, Int.reduceToNat, rho, hG]
    refine OpSem.callq cal.f142 (refLess_calls F.fi F.fn pi pn) rfl rfl rfl (by simp only [bflat_a, refqb9]) (by simp only [bflat_a, refqb9]) (by simp -dsimp (decide := true) (disch := first | omega | simp (decide := true) only [refqb0]) only [refqc4, ↓brun_b, envOf, reduceIte, Nat.reduceEqDiff, Nat.reduceAdd, Nat.reduceSub, Nat.reduceMul, Nat.reduceBEq, Nat.reduceLeDiff, Nat.reduceLT, Int.reduceToNat]) ?_
    simp -dsimp (decide := true) (disch := first | omega | simp (decide := true) only [refqb0]) only [refqb4, ↓brun_b, envOf, reduceIte, Nat.reduceEqDiff, Nat.reduceAdd, Nat.reduceSub, Nat.reduceMul, Nat.reduceBEq, Nat.reduceLeDiff, Nat.reduceLT, Int.reduceToNat, rho, sBin_agg .eql 23 _ _ _ (I16.cellsEq _ _), sBin_agg .eql 135 _ _ _ (ceq135 _ _ _ _), sBin_agg .eql 144 _ _ _ (ceq144 _ _ _ _), sBin_agg .eql 147 _ _ _ (ceq147 _ _ _ _), sBin_agg .neq 23 _ _ _ (I16.cellsEq _ _), sBin_agg .neq 135 _ _ _ (ceq135 _ _ _ _), hG, c1, hb]
    (repeat' refine And.intro (flat135 _ _ _ _) ?_)
    refine hf _ (Sem.go (k := 1000) ?_)
    simp (decide := true) only [back_mk, backL_in, backL_row, backL_none, backL_nil, Nat.zero_add, Nat.reduceAdd]
    simp -dsimp (decide := true) (disch := first | omega | simp (decide := true) only [refqb0]) only [refqb4, ↓brun_b, envOf, reduceIte, Nat.reduceEqDiff, Nat.reduceAdd, Nat.reduceSub, Nat.reduceMul, Nat.reduceBEq, Nat.reduceLeDiff, Nat.reduceLT, Int.reduceToNat, rho]
    refine SQ.runL (rs := [.cell 6 165]) [0, 1] _ _ rfl (And.intro rfl rfl) (by decide) rfl rfl ?_ ?_
    · simp -dsimp (decide := true) (disch := first | omega | simp (decide := true) only [refqb0]) only [refqb2, ↓brun_b, envOf, reduceIte, Nat.reduceEqDiff, Nat.reduceAdd, Nat.reduceSub, Nat.reduceMul, Nat.reduceBEq, Nat.reduceLeDiff, Nat.reduceLT, Int.reduceToNat, rho, frz1, ↓reduceIte]
    · simp -dsimp (decide := true) (disch := first | omega | simp (decide := true) only [refqb0]) only [refqb2, ↓brun_b, envOf, reduceIte, Nat.reduceEqDiff, Nat.reduceAdd, Nat.reduceSub, Nat.reduceMul, Nat.reduceBEq, Nat.reduceLeDiff, Nat.reduceLT, Int.reduceToNat, rho, frz1, ↓reduceIte]
set_option maxHeartbeats 2000000 in
theorem refHear_hi (F : Frm) (k1 : decide (F.kind = 1) = true) (id pid : I16) (op c : Bool) (mi mn pi pn nxi nxn kn gt : Int) (k : Nat) (ts : List (List UInt8))
    (h1 : (decide (F.fi < pi) || (decide (F.fi = pi) && decide (F.fn < pn))) = false) (h0 : (decide (F.fi = 0) && decide (F.fn = 0)) = false) (h2 : (decide (pi < F.fi) || (decide (pi = F.fi) && decide (pn < F.fn))) = false)
    (hc : (decide (F.ti = mi) && decide (F.tn = mn)) = c) (hco : (c && op) = false) :
    SCall Try.prog 108 [.ptr 0 0 0, .agg F.fc.c, .agg [.v (.int .i64 nxi), .v (.int .i64 nxn)]] [some (.row ⟨41, 1, true, 142, fun _ => RE.c ⟨id, .v (.bool true), .v (.bool op), .v (.int .i64 mi), .v (.int .i64 mn), .v (.int .i64 pi), .v (.int .i64 pn), pid, .slc 1 0 k, .v (.int .i64 kn), .v (.int .i64 gt)⟩⟩), some (.row ⟨1, k, false, 35, trow ts⟩)]
      fun r L => r = .ret (.agg [.v (.bool false), .v (.bool (c && !op)), .v (.slice none 0 0), .v (.bool false), .slc 2 0 1]) ∧ L = [some (.row ⟨41, 1, true, 142, fun _ => RE.c ⟨id, .v (.bool true), .v (.bool (op || c)), .v (.int .i64 mi), .v (.int .i64 mn), .v (.int .i64 pi), .v (.int .i64 pn), pid, .slc 1 0 k, .v (.int .i64 kn), .v (.int .i64 gt)⟩⟩), none, some (.row ⟨95, 1, true, 151, fun _ => FC.c { zF with kind := .v (.int .i64 1), fi := .v (.int .i64 mi), fn := .v (.int .i64 mn), ti := .v (.int .i64 pi), tn := .v (.int .i64 pn), a := id }⟩)] := by
  have hg := greeting_calls id pid true (op || c) mi mn pi pn kn gt k (trow ts)
  simp only [Frm.fc] at hg ⊢
  cases c <;> cases op <;> (first | (exact absurd hco (by decide)) | skip)
  all_goals
    simp only [Bool.or_true, Bool.or_false, Bool.true_or, Bool.false_or] at hg ⊢
    refine SCall.mk (fn := Try.f108) (by kernel_rfl) rfl (Nat.le_of_ble_eq_true (by kernel_rfl)) ?_
    refine Sem.go (k := 1000) ?_
    simp -dsimp (decide := true) (disch := first | omega | simp (decide := true) only [refqb0]) only [refqb1, ↓brun_b, envOf, reduceIte, Nat.reduceEqDiff, Nat.reduceAdd, Nat.reduceSub, Nat.reduceMul, Nat.reduceBEq, Nat.reduceLeDiff, Nat.reduceLT, Int.reduceToNat, rho, k1]
    refine Sem.draw' (by kernel_rfl) (.one 0 (.one 1 (.one 2 (.one 3 (.one 4 (.one 5 (.alt 6 (.one 7 (.one 8 (.one 9 (.one 10 (.one 11 (.one 12 .done)))))) .non))))))) [] (by kernel_rfl) (fun G ff hG hf => ?_)
    simp (decide := true) only [refqb3, Nat.reduceAdd] at hG ⊢
    simp -dsimp (decide := true) (disch := first | omega | simp (decide := true) only [refqb0]) only [refqb4, ↓brun_b, envOf, reduceIte, Nat.reduceEqDiff, Nat.reduceAdd, Nat.reduceSub, Nat.reduceMul, Nat.reduceBEq, Nat.reduceLeDiff, Nat.reduceLT, Int.reduceToNat, rho, hG]
    refine OpSem.callq cal.f142 (refLess_calls F.fi F.fn pi pn) rfl rfl rfl (by simp only [bflat_a, refqb9]) (by simp only [bflat_a, refqb9]) (by simp -dsimp (decide := true) (disch := first | omega | simp (decide := true) only [refqb0]) only [refqc4, ↓brun_b, envOf, reduceIte, Nat.reduceEqDiff, Nat.reduceAdd, Nat.reduceSub, Nat.reduceMul, Nat.reduceBEq, Nat.reduceLeDiff, Nat.reduceLT, Int.reduceToNat]) ?_
    simp -dsimp (decide := true) (disch := first | omega | simp (decide := true) only [refqb0]) only [refqb4, ↓brun_b, envOf, reduceIte, Nat.reduceEqDiff, Nat.reduceAdd, Nat.reduceSub, Nat.reduceMul, Nat.reduceBEq, Nat.reduceLeDiff, Nat.reduceLT, Int.reduceToNat, rho, sBin_agg .eql 23 _ _ _ (I16.cellsEq _ _), sBin_agg .eql 135 _ _ _ (ceq135 _ _ _ _), sBin_agg .eql 144 _ _ _ (ceq144 _ _ _ _), sBin_agg .eql 147 _ _ _ (ceq147 _ _ _ _), sBin_agg .neq 23 _ _ _ (I16.cellsEq _ _), sBin_agg .neq 135 _ _ _ (ceq135 _ _ _ _), hG, h1, h0]
    (repeat' refine And.intro (flat135 _ _ _ _) ?_)
    refine hf _ (Sem.go (k := 1000) ?_)
    simp (decide := true) only [back_mk, backL_in, backL_row, backL_none, backL_nil, Nat.zero_add, Nat.reduceAdd]
    simp -dsimp (decide := true) (disch := first | omega | simp (decide := true) only [refqb0]) only [refqb4, ↓brun_b, envOf, reduceIte, Nat.reduceEqDiff, Nat.reduceAdd, Nat.reduceSub, Nat.reduceMul, Nat.reduceBEq, Nat.reduceLeDiff, Nat.reduceLT, Int.reduceToNat, rho]
    refine Sem.draw' (by kernel_rfl) (.one 0 (.one 1 (.one 2 (.one 3 (.one 4 (.one 5 (.alt 6 .done .non))))))) [] (by kernel_rfl) (fun G ff hG hf => ?_)
    simp (decide := true) only [refqb3, Nat.reduceAdd] at hG ⊢
    simp -dsimp (decide := true) (disch := first | omega | simp (decide := true) only [refqb0]) only [refqb4, ↓brun_b, envOf, reduceIte, Nat.reduceEqDiff, Nat.reduceAdd, Nat.reduceSub, Nat.reduceMul, Nat.reduceBEq, Nat.reduceLeDiff, Nat.reduceLT, Int.reduceToNat, rho, hG]
    refine OpSem.callq cal.f142 (refLess_calls pi pn F.fi F.fn) rfl rfl rfl (by simp only [bflat_a, refqb9]) (by simp only [bflat_a, refqb9]) (by simp -dsimp (decide := true) (disch := first | omega | simp (decide := true) only [refqb0]) only [refqc4, ↓brun_b, envOf, reduceIte, Nat.reduceEqDiff, Nat.reduceAdd, Nat.reduceSub, Nat.reduceMul, Nat.reduceBEq, Nat.reduceLeDiff, Nat.reduceLT, Int.reduceToNat]) ?_
    simp -dsimp (decide := true) (disch := first | omega | simp (decide := true) only [refqb0]) only [refqb4, ↓brun_b, envOf, reduceIte, Nat.reduceEqDiff, Nat.reduceAdd, Nat.reduceSub, Nat.reduceMul, Nat.reduceBEq, Nat.reduceLeDiff, Nat.reduceLT, Int.reduceToNat, rho, hG, h2]
    refine hf _ (Sem.go (k := 1000) ?_)
    simp (decide := true) only [back_mk, backL_in, backL_row, backL_none, backL_nil, Nat.zero_add, Nat.reduceAdd]
    simp -dsimp (decide := true) (disch := first | omega | simp (decide := true) only [refqb0]) only [refqb4, ↓brun_b, envOf, reduceIte, Nat.reduceEqDiff, Nat.reduceAdd, Nat.reduceSub, Nat.reduceMul, Nat.reduceBEq, Nat.reduceLeDiff, Nat.reduceLT, Int.reduceToNat, rho]
    refine Sem.draw' (by kernel_rfl) (.one 0 (.one 1 (.one 2 (.one 3 (.one 4 (.one 5 (.one 6 (.one 7 (.one 8 (.one 9 (.one 10 (.one 11 (.one 12 (.one 13 .done)))))))))))))) [] (by kernel_rfl) (fun G ff hG hf => ?_)
    simp (decide := true) only [refqb3, Nat.reduceAdd] at hG ⊢
    simp -dsimp (decide := true) (disch := first | omega | simp (decide := true) only [refqb0]) only [refqb4, ↓brun_b, envOf, reduceIte, Nat.reduceEqDiff, Nat.reduceAdd, Nat.reduceSub, Nat.reduceMul, Nat.reduceBEq, Nat.reduceLeDiff, Nat.reduceLT, Int.reduceToNat, rho, sBin_agg .eql 23 _ _ _ (I16.cellsEq _ _), sBin_agg .eql 135 _ _ _ (ceq135 _ _ _ _), sBin_agg .eql 144 _ _ _ (ceq144 _ _ _ _), sBin_agg .eql 147 _ _ _ (ceq147 _ _ _ _), sBin_agg .neq 23 _ _ _ (I16.cellsEq _ _), sBin_agg .neq 135 _ _ _ (ceq135 _ _ _ _), hG, hc]
    (repeat' refine And.intro (flat135 _ _ _ _) ?_)
    refine hf _ (Sem.go (k := 1000) ?_)
    simp (decide := true) only [back_mk, backL_in, backL_row, backL_none, backL_nil, Nat.zero_add, Nat.reduceAdd]
    simp -dsimp (decide := true) (disch := first | omega | simp (decide := true) only [refqb0]) only [refqb4, ↓brun_b, envOf, reduceIte, Nat.reduceEqDiff, Nat.reduceAdd, Nat.reduceSub, Nat.reduceMul, Nat.reduceBEq, Nat.reduceLeDiff, Nat.reduceLT, Int.reduceToNat, rho]
    refine Sem.draw' (by kernel_rfl) (.one 0 (.one 1 (.one 2 (.one 3 (.one 4 (.one 5 (.one 6 (.one 7 (.one 8 (.one 9 (.one 10 (.one 11 (.one 12 (.one 13 (.alt 14 (.one 15 (.alt 16 .done .non)) .non))))))))))))))) [5] (by kernel_rfl) (fun G ff hG hf => ?_)
    simp (decide := true) only [refqb3, Nat.reduceAdd] at hG ⊢
    simp -dsimp (decide := true) (disch := first | omega | simp (decide := true) only [refqb0]) only [refqb6, ↓brun_b, envOf, reduceIte, Nat.reduceEqDiff, Nat.reduceAdd, Nat.reduceSub, Nat.reduceMul, Nat.reduceBEq, Nat.reduceLeDiff, Nat.reduceLT, Int.reduceToNat, rho, hG]
    (repeat' refine And.intro ?_ ?_)
    all_goals
      refine hf _ (Sem.go (k := 1000) ?_)
      simp (decide := true) only [back_mk, backL_in, backL_row, backL_none, backL_nil, Nat.zero_add, Nat.reduceAdd]
      simp -dsimp (decide := true) (disch := first | omega | simp (decide := true) only [refqb0]) only [refqb4, ↓brun_b, envOf, reduceIte, Nat.reduceEqDiff, Nat.reduceAdd, Nat.reduceSub, Nat.reduceMul, Nat.reduceBEq, Nat.reduceLeDiff, Nat.reduceLT, Int.reduceToNat, rho]
      refine Sem.draw' (by kernel_rfl) (.one 0 (.one 1 (.one 2 (.one 3 (.one 4 (.one 5 (.one 6 (.one 7 (.one 8 (.one 9 (.one 10 .done))))))))))) [] (by kernel_rfl) (fun G ff hG hf => ?_)
      simp (decide := true) only [refqb3, Nat.reduceAdd] at hG ⊢
      simp -dsimp (decide := true) (disch := first | omega | simp (decide := true) only [refqb0]) only [refqb4, ↓brun_b, envOf, reduceIte, Nat.reduceEqDiff, Nat.reduceAdd, Nat.reduceSub, Nat.reduceMul, Nat.reduceBEq, Nat.reduceLeDiff, Nat.reduceLT, Int.reduceToNat, rho, sBin_agg .eql 23 _ _ _ (I16.cellsEq _ _), sBin_agg .eql 135 _ _ _ (ceq135 _ _ _ _), sBin_agg .eql 144 _ _ _ (ceq144 _ _ _ _), sBin_agg .eql 147 _ _ _ (ceq147 _ _ _ _), sBin_agg .neq 23 _ _ _ (I16.cellsEq _ _), sBin_agg .neq 135 _ _ _ (ceq135 _ _ _ _), hG, hc]
      (repeat' refine And.intro (flat135 _ _ _ _) ?_)
      refine hf _ (Sem.go (k := 1000) ?_)
      simp (decide := true) only [back_mk, backL_in, backL_row, backL_none, backL_nil, Nat.zero_add, Nat.reduceAdd]
      simp -dsimp (decide := true) (disch := first | omega | simp (decide := true) only [refqb0]) only [refqb4, ↓brun_b, envOf, reduceIte, Nat.reduceEqDiff, Nat.reduceAdd, Nat.reduceSub, Nat.reduceMul, Nat.reduceBEq, Nat.reduceLeDiff, Nat.reduceLT, Int.reduceToNat, rho]
      refine SemOps.callw [0, 1] cal.f137 (hg) rfl rfl rfl (by simp -dsimp (decide := true) (disch := first | omega | simp (decide := true) only [refqb0]) only [refqb2, ↓brun_b, envOf, reduceIte, Nat.reduceEqDiff, Nat.reduceAdd, Nat.reduceSub, Nat.reduceMul, Nat.reduceBEq, Nat.reduceLeDiff, Nat.reduceLT, Int.reduceToNat, rho, frz1, ↓reduceIte]) rfl (by simp -dsimp (decide := true) (disch := first | omega | simp (decide := true) only [refqb0]) only [refqb2, ↓brun_b, envOf, reduceIte, Nat.reduceEqDiff, Nat.reduceAdd, Nat.reduceSub, Nat.reduceMul, Nat.reduceBEq, Nat.reduceLeDiff, Nat.reduceLT, Int.reduceToNat, rho, frz1, ↓reduceIte]) (by simp -dsimp (decide := true) (disch := first | omega | simp (decide := true) only [refqb0]) only [refqc4, ↓brun_b, envOf, reduceIte, Nat.reduceEqDiff, Nat.reduceAdd, Nat.reduceSub, Nat.reduceMul, Nat.reduceBEq, Nat.reduceLeDiff, Nat.reduceLT, Int.reduceToNat]) ?_
      refine SemOps.go (k := 1000) ?_
      simp -dsimp (decide := true) (disch := first | omega | simp (decide := true) only [refqb0]) only [refqb6, ↓brun_b, envOf, reduceIte, Nat.reduceEqDiff, Nat.reduceAdd, Nat.reduceSub, Nat.reduceMul, Nat.reduceBEq, Nat.reduceLeDiff, Nat.reduceLT, Int.reduceToNat, rho]
      refine SQ.runL (rs := [.cell 6 165]) [0, 1, 7] _ _ rfl (And.intro rfl rfl) (by decide) rfl rfl ?_ ?_
      · simp -dsimp (decide := true) (disch := first | omega | simp (decide := true) only [refqb0]) only [refqb2, ↓brun_b, envOf, reduceIte, Nat.reduceEqDiff, Nat.reduceAdd, Nat.reduceSub, Nat.reduceMul, Nat.reduceBEq, Nat.reduceLeDiff, Nat.reduceLT, Int.reduceToNat, rho, frz1, ↓reduceIte]
        exact fun e he => one124 _ e he (fh_flat _ _ _ _ _)
      · simp -dsimp (decide := true) (disch := first | omega | simp (decide := true) only [refqb0]) only [refqb2, ↓brun_b, envOf, reduceIte, Nat.reduceEqDiff, Nat.reduceAdd, Nat.reduceSub, Nat.reduceMul, Nat.reduceBEq, Nat.reduceLeDiff, Nat.reduceLT, Int.reduceToNat, rho, frz1, ↓reduceIte]
set_option maxHeartbeats 2000000 in
theorem refHear_ackback (F : Frm) (k1 : decide (F.kind = 1) = true) (id pid : I16) (op c : Bool) (mi mn pi pn nxi nxn kn gt : Int) (k : Nat) (ts : List (List UInt8))
    (h1 : (decide (F.fi < pi) || (decide (F.fi = pi) && decide (F.fn < pn))) = false) (h0 : (decide (F.fi = 0) && decide (F.fn = 0)) = false) (h2 : (decide (pi < F.fi) || (decide (pi = F.fi) && decide (pn < F.fn))) = false)
    (hc : (decide (F.ti = mi) && decide (F.tn = mn)) = c) (hco : (c && op) = true) :
    SCall Try.prog 108 [.ptr 0 0 0, .agg F.fc.c, .agg [.v (.int .i64 nxi), .v (.int .i64 nxn)]] [some (.row ⟨41, 1, true, 142, fun _ => RE.c ⟨id, .v (.bool true), .v (.bool op), .v (.int .i64 mi), .v (.int .i64 mn), .v (.int .i64 pi), .v (.int .i64 pn), pid, .slc 1 0 k, .v (.int .i64 kn), .v (.int .i64 gt)⟩⟩), some (.row ⟨1, k, false, 35, trow ts⟩)]
      fun r L => r = .ret (.agg [.v (.bool false), .v (.bool (c && !op)), .v (.slice none 0 0), .v (.bool false), .slc 2 0 1]) ∧ L = [some (.row ⟨41, 1, true, 142, fun _ => RE.c ⟨id, .v (.bool true), .v (.bool (op || c)), .v (.int .i64 mi), .v (.int .i64 mn), .v (.int .i64 pi), .v (.int .i64 pn), pid, .slc 1 0 k, .v (.int .i64 kn), .v (.int .i64 gt)⟩⟩), none, some (.row ⟨95, 1, true, 151, fun _ => FC.c { zF with kind := .v (.int .i64 3), fi := .v (.int .i64 mi), fn := .v (.int .i64 mn), ti := .v (.int .i64 pi), tn := .v (.int .i64 pn), n := .v (.int .i64 gt) }⟩)] := by
  have hg := greeting_calls id pid true (op || c) mi mn pi pn kn gt k (trow ts)
  simp only [Frm.fc] at hg ⊢
  cases c <;> cases op <;> (first | (exact absurd hco (by decide)) | skip)
  all_goals
    simp only [Bool.or_true, Bool.or_false, Bool.true_or, Bool.false_or] at hg ⊢
    refine SCall.mk (fn := Try.f108) (by kernel_rfl) rfl (Nat.le_of_ble_eq_true (by kernel_rfl)) ?_
    refine Sem.go (k := 1000) ?_
    simp -dsimp (decide := true) (disch := first | omega | simp (decide := true) only [refqb0]) only [refqb1, ↓brun_b, envOf, reduceIte, Nat.reduceEqDiff, Nat.reduceAdd, Nat.reduceSub, Nat.reduceMul, Nat.reduceBEq, Nat.reduceLeDiff, Nat.reduceLT, Int.reduceToNat, rho, k1]
    refine Sem.draw' (by kernel_rfl) (.one 0 (.one 1 (.one 2 (.one 3 (.one 4 (.one 5 (.alt 6 (.one 7 (.one 8 (.one 9 (.one 10 (.one 11 (.one 12 .done)))))) .non))))))) [] (by kernel_rfl) (fun G ff hG hf => ?_)
    simp (decide := true) only [refqb3, Nat.reduceAdd] at hG ⊢
    simp -dsimp (decide := true) (disch := first | omega | simp (decide := true) only [refqb0]) only [refqb4, ↓brun_b, envOf, reduceIte, Nat.reduceEqDiff, Nat.reduceAdd, Nat.reduceSub, Nat.reduceMul, Nat.reduceBEq, Nat.reduceLeDiff, Nat.reduceLT, Int.reduceToNat, rho, hG]
    refine OpSem.callq cal.f142 (refLess_calls F.fi F.fn pi pn) rfl rfl rfl (by simp only [bflat_a, refqb9]) (by simp only [bflat_a, refqb9]) (by simp -dsimp (decide := true) (disch := first | omega | simp (decide := true) only [refqb0]) only [refqc4, ↓brun_b, envOf, reduceIte, Nat.reduceEqDiff, Nat.reduceAdd, Nat.reduceSub, Nat.reduceMul, Nat.reduceBEq, Nat.reduceLeDiff, Nat.reduceLT, Int.reduceToNat]) ?_
    simp -dsimp (decide := true) (disch := first | omega | simp (decide := true) only [refqb0]) only [refqb4, ↓brun_b, envOf, reduceIte, Nat.reduceEqDiff, Nat.reduceAdd, Nat.reduceSub, Nat.reduceMul, Nat.reduceBEq, Nat.reduceLeDiff, Nat.reduceLT, Int.reduceToNat, rho, sBin_agg .eql 23 _ _ _ (I16.cellsEq _ _), sBin_agg .eql 135 _ _ _ (ceq135 _ _ _ _), sBin_agg .eql 144 _ _ _ (ceq144 _ _ _ _), sBin_agg .eql 147 _ _ _ (ceq147 _ _ _ _), sBin_agg .neq 23 _ _ _ (I16.cellsEq _ _), sBin_agg .neq 135 _ _ _ (ceq135 _ _ _ _), hG, h1, h0]
    (repeat' refine And.intro (flat135 _ _ _ _) ?_)
    refine hf _ (Sem.go (k := 1000) ?_)
    simp (decide := true) only [back_mk, backL_in, backL_row, backL_none, backL_nil, Nat.zero_add, Nat.reduceAdd]
    simp -dsimp (decide := true) (disch := first | omega | simp (decide := true) only [refqb0]) only [refqb4, ↓brun_b, envOf, reduceIte, Nat.reduceEqDiff, Nat.reduceAdd, Nat.reduceSub, Nat.reduceMul, Nat.reduceBEq, Nat.reduceLeDiff, Nat.reduceLT, Int.reduceToNat, rho]
    refine Sem.draw' (by kernel_rfl) (.one 0 (.one 1 (.one 2 (.one 3 (.one 4 (.one 5 (.alt 6 .done .non))))))) [] (by kernel_rfl) (fun G ff hG hf => ?_)
    simp (decide := true) only [refqb3, Nat.reduceAdd] at hG ⊢
    simp -dsimp (decide := true) (disch := first | omega | simp (decide := true) only [refqb0]) only [refqb4, ↓brun_b, envOf, reduceIte, Nat.reduceEqDiff, Nat.reduceAdd, Nat.reduceSub, Nat.reduceMul, Nat.reduceBEq, Nat.reduceLeDiff, Nat.reduceLT, Int.reduceToNat, rho, hG]
    refine OpSem.callq cal.f142 (refLess_calls pi pn F.fi F.fn) rfl rfl rfl (by simp only [bflat_a, refqb9]) (by simp only [bflat_a, refqb9]) (by simp -dsimp (decide := true) (disch := first | omega | simp (decide := true) only [refqb0]) only [refqc4, ↓brun_b, envOf, reduceIte, Nat.reduceEqDiff, Nat.reduceAdd, Nat.reduceSub, Nat.reduceMul, Nat.reduceBEq, Nat.reduceLeDiff, Nat.reduceLT, Int.reduceToNat]) ?_
    simp -dsimp (decide := true) (disch := first | omega | simp (decide := true) only [refqb0]) only [refqb4, ↓brun_b, envOf, reduceIte, Nat.reduceEqDiff, Nat.reduceAdd, Nat.reduceSub, Nat.reduceMul, Nat.reduceBEq, Nat.reduceLeDiff, Nat.reduceLT, Int.reduceToNat, rho, hG, h2]
    refine hf _ (Sem.go (k := 1000) ?_)
    simp (decide := true) only [back_mk, backL_in, backL_row, backL_none, backL_nil, Nat.zero_add, Nat.reduceAdd]
    simp -dsimp (decide := true) (disch := first | omega | simp (decide := true) only [refqb0]) only [refqb4, ↓brun_b, envOf, reduceIte, Nat.reduceEqDiff, Nat.reduceAdd, Nat.reduceSub, Nat.reduceMul, Nat.reduceBEq, Nat.reduceLeDiff, Nat.reduceLT, Int.reduceToNat, rho]
    refine Sem.draw' (by kernel_rfl) (.one 0 (.one 1 (.one 2 (.one 3 (.one 4 (.one 5 (.one 6 (.one 7 (.one 8 (.one 9 (.one 10 (.one 11 (.one 12 (.one 13 .done)))))))))))))) [] (by kernel_rfl) (fun G ff hG hf => ?_)
    simp (decide := true) only [refqb3, Nat.reduceAdd] at hG ⊢
    simp -dsimp (decide := true) (disch := first | omega | simp (decide := true) only [refqb0]) only [refqb4, ↓brun_b, envOf, reduceIte, Nat.reduceEqDiff, Nat.reduceAdd, Nat.reduceSub, Nat.reduceMul, Nat.reduceBEq, Nat.reduceLeDiff, Nat.reduceLT, Int.reduceToNat, rho, sBin_agg .eql 23 _ _ _ (I16.cellsEq _ _), sBin_agg .eql 135 _ _ _ (ceq135 _ _ _ _), sBin_agg .eql 144 _ _ _ (ceq144 _ _ _ _), sBin_agg .eql 147 _ _ _ (ceq147 _ _ _ _), sBin_agg .neq 23 _ _ _ (I16.cellsEq _ _), sBin_agg .neq 135 _ _ _ (ceq135 _ _ _ _), hG, hc]
    (repeat' refine And.intro (flat135 _ _ _ _) ?_)
    refine hf _ (Sem.go (k := 1000) ?_)
    simp (decide := true) only [back_mk, backL_in, backL_row, backL_none, backL_nil, Nat.zero_add, Nat.reduceAdd]
    simp -dsimp (decide := true) (disch := first | omega | simp (decide := true) only [refqb0]) only [refqb4, ↓brun_b, envOf, reduceIte, Nat.reduceEqDiff, Nat.reduceAdd, Nat.reduceSub, Nat.reduceMul, Nat.reduceBEq, Nat.reduceLeDiff, Nat.reduceLT, Int.reduceToNat, rho]
    refine Sem.draw' (by kernel_rfl) (.one 0 (.one 1 (.one 2 (.one 3 (.one 4 (.one 5 (.one 6 (.one 7 (.one 8 (.one 9 (.one 10 (.one 11 (.one 12 (.one 13 (.alt 14 (.one 15 (.alt 16 .done .non)) .non))))))))))))))) [5] (by kernel_rfl) (fun G ff hG hf => ?_)
    simp (decide := true) only [refqb3, Nat.reduceAdd] at hG ⊢
    simp -dsimp (decide := true) (disch := first | omega | simp (decide := true) only [refqb0]) only [refqb6, ↓brun_b, envOf, reduceIte, Nat.reduceEqDiff, Nat.reduceAdd, Nat.reduceSub, Nat.reduceMul, Nat.reduceBEq, Nat.reduceLeDiff, Nat.reduceLT, Int.reduceToNat, rho, hG]
    (repeat' refine And.intro ?_ ?_)
    all_goals
      refine hf _ (Sem.go (k := 1000) ?_)
      simp (decide := true) only [back_mk, backL_in, backL_row, backL_none, backL_nil, Nat.zero_add, Nat.reduceAdd]
      simp -dsimp (decide := true) (disch := first | omega | simp (decide := true) only [refqb0]) only [refqb4, ↓brun_b, envOf, reduceIte, Nat.reduceEqDiff, Nat.reduceAdd, Nat.reduceSub, Nat.reduceMul, Nat.reduceBEq, Nat.reduceLeDiff, Nat.reduceLT, Int.reduceToNat, rho]
      refine Sem.draw' (by kernel_rfl) (.one 0 (.one 1 (.one 2 (.one 3 (.one 4 (.one 5 (.one 6 (.one 7 (.one 8 (.one 9 (.one 10 .done))))))))))) [] (by kernel_rfl) (fun G ff hG hf => ?_)
      simp (decide := true) only [refqb3, Nat.reduceAdd] at hG ⊢
      simp -dsimp (decide := true) (disch := first | omega | simp (decide := true) only [refqb0]) only [refqb4, ↓brun_b, envOf, reduceIte, Nat.reduceEqDiff, Nat.reduceAdd, Nat.reduceSub, Nat.reduceMul, Nat.reduceBEq, Nat.reduceLeDiff, Nat.reduceLT, Int.reduceToNat, rho, sBin_agg .eql 23 _ _ _ (I16.cellsEq _ _), sBin_agg .eql 135 _ _ _ (ceq135 _ _ _ _), sBin_agg .eql 144 _ _ _ (ceq144 _ _ _ _), sBin_agg .eql 147 _ _ _ (ceq147 _ _ _ _), sBin_agg .neq 23 _ _ _ (I16.cellsEq _ _), sBin_agg .neq 135 _ _ _ (ceq135 _ _ _ _), hG, hc]
      (repeat' refine And.intro (flat135 _ _ _ _) ?_)
      refine hf _ (Sem.go (k := 1000) ?_)
      simp (decide := true) only [back_mk, backL_in, backL_row, backL_none, backL_nil, Nat.zero_add, Nat.reduceAdd]
      simp -dsimp (decide := true) (disch := first | omega | simp (decide := true) only [refqb0]) only [refqb4, ↓brun_b, envOf, reduceIte, Nat.reduceEqDiff, Nat.reduceAdd, Nat.reduceSub, Nat.reduceMul, Nat.reduceBEq, Nat.reduceLeDiff, Nat.reduceLT, Int.reduceToNat, rho]
      skip
      refine SQ.runL (rs := [.cell 6 165]) [0, 1, 6] _ _ rfl (And.intro rfl rfl) (by decide) rfl rfl ?_ ?_
      · simp -dsimp (decide := true) (disch := first | omega | simp (decide := true) only [refqb0]) only [refqb2, ↓brun_b, envOf, reduceIte, Nat.reduceEqDiff, Nat.reduceAdd, Nat.reduceSub, Nat.reduceMul, Nat.reduceBEq, Nat.reduceLeDiff, Nat.reduceLT, Int.reduceToNat, rho, frz1, ↓reduceIte]
        exact fun e he => one124 _ e he (fk_flat _ _ _ _ _)
      · simp -dsimp (decide := true) (disch := first | omega | simp (decide := true) only [refqb0]) only [refqb2, ↓brun_b, envOf, reduceIte, Nat.reduceEqDiff, Nat.reduceAdd, Nat.reduceSub, Nat.reduceMul, Nat.reduceBEq, Nat.reduceLeDiff, Nat.reduceLT, Int.reduceToNat, rho, frz1, ↓reduceIte]
def refqb10 :=
  (And.intro (And.intro refqc2 (And.intro refqc1 refqc3)) (And.intro (And.intro refqc4 @build54r) (And.intro @fh_flat @fk_flat)))
def refqb11 :=
  (And.intro (And.intro refqc2 (And.intro refqc1 refqc3)) (And.intro (And.intro refqc4 @RE.lset) (And.intro @fh_flat @fk_flat)))
set_option maxHeartbeats 4000000 in
theorem refHear_new (F : Frm) (k1 : decide (F.kind = 1) = true) (id pid : I16) (op o2 : Bool) (mi mn pi pn nxi nxn kn gt m2 n2 : Int) (k : Nat) (ts : List (List UInt8))
    (h1 : (decide (F.fi < pi) || (decide (F.fi = pi) && decide (F.fn < pn))) = false) (h0 : (decide (F.fi = 0) && decide (F.fn = 0)) = false) (h2 : (decide (pi < F.fi) || (decide (pi = F.fi) && decide (pn < F.fn))) = true)
    (hm : m2 = bif op then nxi else mi) (hn : n2 = bif op then nxn else mn) (hc : (decide (F.ti = m2) && decide (F.tn = n2)) = o2) :
    SCall Try.prog 108 [.ptr 0 0 0, .agg F.fc.c, .agg [.v (.int .i64 nxi), .v (.int .i64 nxn)]] [some (.row ⟨41, 1, true, 142, fun _ => RE.c ⟨id, .v (.bool true), .v (.bool op), .v (.int .i64 mi), .v (.int .i64 mn), .v (.int .i64 pi), .v (.int .i64 pn), pid, .slc 1 0 k, .v (.int .i64 kn), .v (.int .i64 gt)⟩⟩), some (.row ⟨1, k, false, 35, trow ts⟩)]
      fun r L => r = .ret (.agg [.v (.bool op), .v (.bool o2), .v (.slice none 0 0), .v (.bool false), .slc 3 0 1]) ∧ L = [some (.row ⟨41, 1, true, 142, fun _ => RE.c ⟨id, .v (.bool true), .v (.bool o2), .v (.int .i64 m2), .v (.int .i64 n2), .v (.int .i64 F.fi), .v (.int .i64 F.fn), F.a, .slc 2 0 0, .v (.int .i64 0), .v (.int .i64 0)⟩⟩), none, some (.row ⟨1, 0, true, 35, trow []⟩), some (.row ⟨95, 1, true, 151, fun _ => FC.c { zF with kind := .v (.int .i64 1), fi := .v (.int .i64 m2), fn := .v (.int .i64 n2), ti := .v (.int .i64 F.fi), tn := .v (.int .i64 F.fn), a := id }⟩)] := by
  have hg := greeting_calls id F.a true o2 m2 n2 F.fi F.fn 0 0 0 (trow [])
  simp only [Frm.fc] at hg ⊢
  cases op <;> cases o2
  all_goals
    simp only [cond_true, cond_false] at hm hn
    subst hm hn
    refine SCall.mk (fn := Try.f108) (by kernel_rfl) rfl (Nat.le_of_ble_eq_true (by kernel_rfl)) ?_
    refine Sem.go (k := 1000) ?_
    simp -dsimp (decide := true) (disch := first | omega | simp (decide := true) only [refqb0]) only [refqb1, ↓brun_b, envOf, reduceIte, Nat.reduceEqDiff, Nat.reduceAdd, Nat.reduceSub, Nat.reduceMul, Nat.reduceBEq, Nat.reduceLeDiff, Nat.reduceLT, Int.reduceToNat, rho, k1]
    refine Sem.draw' (by kernel_rfl) (.one 0 (.one 1 (.one 2 (.one 3 (.one 4 (.one 5 (.alt 6 (.one 7 (.one 8 (.one 9 (.one 10 (.one 11 (.one 12 .done)))))) .non))))))) [] (by kernel_rfl) (fun G ff hG hf => ?_)
    simp (decide := true) only [refqb3, Nat.reduceAdd] at hG ⊢
    simp -dsimp (decide := true) (disch := first | omega | simp (decide := true) only [refqb0]) only [refqb4, ↓brun_b, envOf, reduceIte, Nat.reduceEqDiff, Nat.reduceAdd, Nat.reduceSub, Nat.reduceMul, Nat.reduceBEq, Nat.reduceLeDiff, Nat.reduceLT, Int.reduceToNat, rho, hG]
    refine OpSem.callq cal.f142 (refLess_calls F.fi F.fn pi pn) rfl rfl rfl (by simp only [bflat_a, refqb9]) (by simp only [bflat_a, refqb9]) (by simp -dsimp (decide := true) (disch := first | omega | simp (decide := true) only [refqb0]) only [refqc4, ↓brun_b, envOf, reduceIte, Nat.reduceEqDiff, Nat.reduceAdd, Nat.reduceSub, Nat.reduceMul, Nat.reduceBEq, Nat.reduceLeDiff, Nat.reduceLT, Int.reduceToNat]) ?_
    simp -dsimp (decide := true) (disch := first | omega | simp (decide := true) only [refqb0]) only [refqb4, ↓brun_b, envOf, reduceIte, Nat.reduceEqDiff, Nat.reduceAdd, Nat.reduceSub, Nat.reduceMul, Nat.reduceBEq, Nat.reduceLeDiff, Nat.reduceLT, Int.reduceToNat, rho, sBin_agg .eql 23 _ _ _ (I16.cellsEq _ _), sBin_agg .eql 135 _ _ _ (ceq135 _ _ _ _), sBin_agg .eql 144 _ _ _ (ceq144 _ _ _ _), sBin_agg .eql 147 _ _ _ (ceq147 _ _ _ _), sBin_agg .neq 23 _ _ _ (I16.cellsEq _ _), sBin_agg .neq 135 _ _ _ (ceq135 _ _ _ _), hG, h1, h0]
    (repeat' refine And.intro (flat135 _ _ _ _) ?_)
    refine hf _ (Sem.go (k := 1000) ?_)
    simp (decide := true) only [back_mk, backL_in, backL_row, backL_none, backL_nil, Nat.zero_add, Nat.reduceAdd]
    simp -dsimp (decide := true) (disch := first | omega | simp (decide := true) only [refqb0]) only [refqb4, ↓brun_b, envOf, reduceIte, Nat.reduceEqDiff, Nat.reduceAdd, Nat.reduceSub, Nat.reduceMul, Nat.reduceBEq, Nat.reduceLeDiff, Nat.reduceLT, Int.reduceToNat, rho]
    refine Sem.draw' (by kernel_rfl) (.one 0 (.one 1 (.one 2 (.one 3 (.one 4 (.one 5 (.alt 6 .done .non))))))) [] (by kernel_rfl) (fun G ff hG hf => ?_)
    simp (decide := true) only [refqb3, Nat.reduceAdd] at hG ⊢
    simp -dsimp (decide := true) (disch := first | omega | simp (decide := true) only [refqb0]) only [refqb4, ↓brun_b, envOf, reduceIte, Nat.reduceEqDiff, Nat.reduceAdd, Nat.reduceSub, Nat.reduceMul, Nat.reduceBEq, Nat.reduceLeDiff, Nat.reduceLT, Int.reduceToNat, rho, hG]
    refine OpSem.callq cal.f142 (refLess_calls pi pn F.fi F.fn) rfl rfl rfl (by simp only [bflat_a, refqb9]) (by simp only [bflat_a, refqb9]) (by simp -dsimp (decide := true) (disch := first | omega | simp (decide := true) only [refqb0]) only [refqc4, ↓brun_b, envOf, reduceIte, Nat.reduceEqDiff, Nat.reduceAdd, Nat.reduceSub, Nat.reduceMul, Nat.reduceBEq, Nat.reduceLeDiff, Nat.reduceLT, Int.reduceToNat]) ?_
    simp -dsimp (decide := true) (disch := first | omega | simp (decide := true) only [refqb0]) only [refqb4, ↓brun_b, envOf, reduceIte, Nat.reduceEqDiff, Nat.reduceAdd, Nat.reduceSub, Nat.reduceMul, Nat.reduceBEq, Nat.reduceLeDiff, Nat.reduceLT, Int.reduceToNat, rho, hG, h2]
    refine hf _ (Sem.go (k := 1000) ?_)
    simp (decide := true) only [back_mk, backL_in, backL_row, backL_none, backL_nil, Nat.zero_add, Nat.reduceAdd]
    simp -dsimp (decide := true) (disch := first | omega | simp (decide := true) only [refqb0]) only [refqb4, ↓brun_b, envOf, reduceIte, Nat.reduceEqDiff, Nat.reduceAdd, Nat.reduceSub, Nat.reduceMul, Nat.reduceBEq, Nat.reduceLeDiff, Nat.reduceLT, Int.reduceToNat, rho]
    refine Sem.draw' (by kernel_rfl) (.one 0 (.one 1 (.one 2 (.one 3 (.one 4 (.one 5 (.one 6 (.one 7 (.one 8 (.one 9 (.one 10 (.alt 11 (.one 12 (.one 13 (.alt 14 (.one 15 (.one 16 (.alt 17 (.one 18 (.one 19 (.alt 20 .done .non))) .non))) .non))) .non)))))))))))) [0] (by kernel_rfl) (fun G ff hG hf => ?_)
    simp (decide := true) only [refqb3, Nat.reduceAdd] at hG ⊢
    simp -dsimp (decide := true) (disch := first | omega | simp (decide := true) only [refqb0]) only [refqb10, ↓brun_b, envOf, reduceIte, Nat.reduceEqDiff, Nat.reduceAdd, Nat.reduceSub, Nat.reduceMul, Nat.reduceBEq, Nat.reduceLeDiff, Nat.reduceLT, Int.reduceToNat, rho, hG]
    refine hf _ (Sem.go (k := 1000) ?_)
    simp (decide := true) only [back_mk, backL_in, backL_row, backL_none, backL_nil, Nat.zero_add, Nat.reduceAdd]
    simp -dsimp (decide := true) (disch := first | omega | simp (decide := true) only [refqb0]) only [refqb4, ↓brun_b, envOf, reduceIte, Nat.reduceEqDiff, Nat.reduceAdd, Nat.reduceSub, Nat.reduceMul, Nat.reduceBEq, Nat.reduceLeDiff, Nat.reduceLT, Int.reduceToNat, rho]
    refine Lent.sem (Lent.ghostB 0 38 1 35 rfl (RE.get38 _)) (Sem.go (k := 1000) ?_)
    simp -dsimp (decide := true) (disch := first | omega | simp (decide := true) only [refqb0]) only [refqb11, ↓brun_b, envOf, reduceIte, Nat.reduceEqDiff, Nat.reduceAdd, Nat.reduceSub, Nat.reduceMul, Nat.reduceBEq, Nat.reduceLeDiff, Nat.reduceLT, Int.reduceToNat, rho]
    refine Sem.draw' (by kernel_rfl) (.one 0 (.one 1 (.one 2 (.one 3 (.one 4 (.one 5 (.one 6 (.one 7 (.one 8 (.one 9 (.one 10 (.one 11 (.one 12 (.one 13 .done)))))))))))))) [] (by kernel_rfl) (fun G ff hG hf => ?_)
    simp (decide := true) only [refqb3, Nat.reduceAdd] at hG ⊢
    simp -dsimp (decide := true) (disch := first | omega | simp (decide := true) only [refqb0]) only [refqb4, ↓brun_b, envOf, reduceIte, Nat.reduceEqDiff, Nat.reduceAdd, Nat.reduceSub, Nat.reduceMul, Nat.reduceBEq, Nat.reduceLeDiff, Nat.reduceLT, Int.reduceToNat, rho, sBin_agg .eql 23 _ _ _ (I16.cellsEq _ _), sBin_agg .eql 135 _ _ _ (ceq135 _ _ _ _), sBin_agg .eql 144 _ _ _ (ceq144 _ _ _ _), sBin_agg .eql 147 _ _ _ (ceq147 _ _ _ _), sBin_agg .neq 23 _ _ _ (I16.cellsEq _ _), sBin_agg .neq 135 _ _ _ (ceq135 _ _ _ _), hG, hc]
    (repeat' refine And.intro (flat135 _ _ _ _) ?_)
    refine hf _ (Sem.go (k := 1000) ?_)
    simp (decide := true) only [back_mk, backL_in, backL_row, backL_none, backL_nil, Nat.zero_add, Nat.reduceAdd]
    simp -dsimp (decide := true) (disch := first | omega | simp (decide := true) only [refqb0]) only [refqb4, ↓brun_b, envOf, reduceIte, Nat.reduceEqDiff, Nat.reduceAdd, Nat.reduceSub, Nat.reduceMul, Nat.reduceBEq, Nat.reduceLeDiff, Nat.reduceLT, Int.reduceToNat, rho]
    refine Sem.draw' (by kernel_rfl) (.one 0 (.one 1 (.one 2 (.one 3 (.one 4 (.one 5 (.one 6 (.one 7 (.one 8 (.one 9 (.one 10 (.one 11 (.one 12 (.one 13 (.alt 14 (.one 15 (.alt 16 .done .non)) .non))))))))))))))) [5] (by kernel_rfl) (fun G ff hG hf => ?_)
    simp (decide := true) only [refqb3, Nat.reduceAdd] at hG ⊢
    simp -dsimp (decide := true) (disch := first | omega | simp (decide := true) only [refqb0]) only [refqb6, ↓brun_b, envOf, reduceIte, Nat.reduceEqDiff, Nat.reduceAdd, Nat.reduceSub, Nat.reduceMul, Nat.reduceBEq, Nat.reduceLeDiff, Nat.reduceLT, Int.reduceToNat, rho, hG]
    (repeat' refine And.intro ?_ ?_)
    all_goals
      refine hf _ (Sem.go (k := 1000) ?_)
      simp (decide := true) only [back_mk, backL_in, backL_row, backL_none, backL_nil, Nat.zero_add, Nat.reduceAdd]
      simp -dsimp (decide := true) (disch := first | omega | simp (decide := true) only [refqb0]) only [refqb4, ↓brun_b, envOf, reduceIte, Nat.reduceEqDiff, Nat.reduceAdd, Nat.reduceSub, Nat.reduceMul, Nat.reduceBEq, Nat.reduceLeDiff, Nat.reduceLT, Int.reduceToNat, rho]
      refine Sem.draw' (by kernel_rfl) (.one 0 (.one 1 (.one 2 (.one 3 (.one 4 (.one 5 (.one 6 (.one 7 (.one 8 (.one 9 (.one 10 .done))))))))))) [] (by kernel_rfl) (fun G ff hG hf => ?_)
      simp (decide := true) only [refqb3, Nat.reduceAdd] at hG ⊢
      simp -dsimp (decide := true) (disch := first | omega | simp (decide := true) only [refqb0]) only [refqb4, ↓brun_b, envOf, reduceIte, Nat.reduceEqDiff, Nat.reduceAdd, Nat.reduceSub, Nat.reduceMul, Nat.reduceBEq, Nat.reduceLeDiff, Nat.reduceLT, Int.reduceToNat, rho, sBin_agg .eql 23 _ _ _ (I16.cellsEq _ _), sBin_agg .eql 135 _ _ _ (ceq135 _ _ _ _), sBin_agg .eql 144 _ _ _ (ceq144 _ _ _ _), sBin_agg .eql 147 _ _ _ (ceq147 _ _ _ _), sBin_agg .neq 23 _ _ _ (I16.cellsEq _ _), sBin_agg .neq 135 _ _ _ (ceq135 _ _ _ _), hG, hc]
      (repeat' refine And.intro (flat135 _ _ _ _) ?_)
      refine hf _ (Sem.go (k := 1000) ?_)
      simp (decide := true) only [back_mk, backL_in, backL_row, backL_none, backL_nil, Nat.zero_add, Nat.reduceAdd]
      simp -dsimp (decide := true) (disch := first | omega | simp (decide := true) only [refqb0]) only [refqb4, ↓brun_b, envOf, reduceIte, Nat.reduceEqDiff, Nat.reduceAdd, Nat.reduceSub, Nat.reduceMul, Nat.reduceBEq, Nat.reduceLeDiff, Nat.reduceLT, Int.reduceToNat, rho]
      refine SemOps.callw [0, 6] cal.f137 (hg) rfl rfl rfl (by simp -dsimp (decide := true) (disch := first | omega | simp (decide := true) only [refqb0]) only [refqb2, ↓brun_b, envOf, reduceIte, Nat.reduceEqDiff, Nat.reduceAdd, Nat.reduceSub, Nat.reduceMul, Nat.reduceBEq, Nat.reduceLeDiff, Nat.reduceLT, Int.reduceToNat, rho, frz1, ↓reduceIte]) rfl (by simp -dsimp (decide := true) (disch := first | omega | simp (decide := true) only [refqb0]) only [refqb2, ↓brun_b, envOf, reduceIte, Nat.reduceEqDiff, Nat.reduceAdd, Nat.reduceSub, Nat.reduceMul, Nat.reduceBEq, Nat.reduceLeDiff, Nat.reduceLT, Int.reduceToNat, rho, frz1, ↓reduceIte]) (by simp -dsimp (decide := true) (disch := first | omega | simp (decide := true) only [refqb0]) only [refqc4, ↓brun_b, envOf, reduceIte, Nat.reduceEqDiff, Nat.reduceAdd, Nat.reduceSub, Nat.reduceMul, Nat.reduceBEq, Nat.reduceLeDiff, Nat.reduceLT, Int.reduceToNat]) ?_
      refine SemOps.go (k := 1000) ?_
      simp -dsimp (decide := true) (disch := first | omega | simp (decide := true) only [refqb0]) only [refqb6, ↓brun_b, envOf, reduceIte, Nat.reduceEqDiff, Nat.reduceAdd, Nat.reduceSub, Nat.reduceMul, Nat.reduceBEq, Nat.reduceLeDiff, Nat.reduceLT, Int.reduceToNat, rho]
      refine SQ.runL (rs := [.cell 6 165]) [0, 1, 6, 8] _ _ rfl (And.intro rfl rfl) (by decide) rfl rfl ?_ ?_
      · simp -dsimp (decide := true) (disch := first | omega | simp (decide := true) only [refqb0]) only [refqb2, ↓brun_b, envOf, reduceIte, Nat.reduceEqDiff, Nat.reduceAdd, Nat.reduceSub, Nat.reduceMul, Nat.reduceBEq, Nat.reduceLeDiff, Nat.reduceLT, Int.reduceToNat, rho, frz1, ↓reduceIte]
        exact fun e he => one124 _ e he (fh_flat _ _ _ _ _)
      · simp -dsimp (decide := true) (disch := first | omega | simp (decide := true) only [refqb0]) only [refqb2, ↓brun_b, envOf, reduceIte, Nat.reduceEqDiff, Nat.reduceAdd, Nat.reduceSub, Nat.reduceMul, Nat.reduceBEq, Nat.reduceLeDiff, Nat.reduceLT, Int.reduceToNat, rho, frz1, ↓reduceIte]
end Go.Proofs
