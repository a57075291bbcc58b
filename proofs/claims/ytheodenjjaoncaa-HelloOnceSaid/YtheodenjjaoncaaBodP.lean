/- Contracts of functions that the laws reach, on abstract values, and what they need: no conditions but those that each theorem states. -/
import Derived.Test.YtheodenjjaoncaaHelQ
set_option linter.unusedVariables false
set_option linter.unusedSimpArgs false
set_option linter.defProp false
namespace Go.Proofs
open Go Go.SL
set_option maxRecDepth 100000
def bodpc0 :=
  (And.intro (And.intro @EC.c_length @FC.c_length) (And.intro @H1.c_length (And.intro @I16.c_length @trow_len)))
def bodpc1 :=
  (And.intro (And.intro (And.intro @EC.flat @H1.flat) (And.intro @I16.flat (And.intro @IC.flat @brow_flat))) (And.intro (And.intro @frm_flat @idrs_flat) (And.intro @lrows_flat (And.intro @trow_flat @trows_flat))))
def bodpc2 :=
  (And.intro (And.intro (And.intro @EC.one (And.intro @FC.flat_eq @FC.one_eq)) (And.intro @H1.one (And.intro @I16.one @IC.one))) (And.intro (And.intro @bdset_a (And.intro @trows_length @zD.eq_1)) (And.intro (And.intro @zE.eq_1 @zF.eq_1) (And.intro @zH.eq_1 @zK.eq_1))))
def bodpb0 :=
  (And.intro (And.intro bodpc0 (And.intro bodpc1 bodpc2)) (And.intro @IC.c_length (And.intro @fh_flat @fk_flat)))
def bodpc3 :=
  (And.intro (And.intro (And.intro (And.intro (And.intro (And.intro @EC.at_op @EC.at_up) (And.intro @EC.at_w @EC.ent)) (And.intro (And.intro @EC.part @EC.part_id) (And.intro @EC.part_mine @EC.part_peer))) (And.intro (And.intro (And.intro @EC.part_pid @EC.renc) (And.intro @EC.set_all @EC.set_mine)) (And.intro (And.intro @EC.set_op @EC.set_peer) (And.intro @EC.set_pid @EC.set_up)))) (And.intro (And.intro (And.intro (And.intro @EC.set_w @FC.part) (And.intro @FC.set_all @H1.part)) (And.intro (And.intro @H1.part_a @H1.part_from) (And.intro @H1.part_to @H1.set_all))) (And.intro (And.intro (And.intro @I16.part @Int.cast_ofNat_Int) (And.intro @List.replicate_succ.{0} @List.replicate_zero.{0})) (And.intro (And.intro @SKren_row @after_mk) (And.intro @al135 @al151))))) (And.intro (And.intro (And.intro (And.intro (And.intro @al162 @al210) (And.intro @al214 @al218)) (And.intro (And.intro @al23 @build135z) (And.intro @build151a @build151h))) (And.intro (And.intro (And.intro @build151z @build162z) (And.intro @build214 @build23z)) (And.intro (And.intro @cellAt_succ @cellAt_zero) (And.intro @mergeL_done @mergeL_own)))) (And.intro (And.intro (And.intro (And.intro @mergeL_row @mk210) (And.intro @mk214 @mk218)) (And.intro (And.intro @renL_cons @renL_flat) (And.intro @renL_nil @ren_tup))) (And.intro (And.intro (And.intro @sop_assert @sp02) (And.intro @sp05 @sp22)) (And.intro (And.intro @splice_0 @splice_c) (And.intro @splice_s @trow_cell))))))
def bodpc4 :=
  (And.intro (And.intro (And.intro (And.intro (And.intro @beq_self_eq_true.{0} @brun_a) (And.intro @cond_false.{1} @cond_true.{1})) (And.intro (And.intro @tab.a135 @tab.a151) (And.intro @tab.a2 (And.intro @tab.a214 @tab.a23)))) (And.intro (And.intro (And.intro @tab.a3 @tab.a35) (And.intro @tab.a4 @tab.a5)) (And.intro (And.intro @tab.f135x0 @tab.f135x1) (And.intro @tab.f151x3 (And.intro @tab.f214x0 @tab.f214x1))))) (And.intro (And.intro (And.intro (And.intro @tab.f214x2 @tab.s135) (And.intro @tab.s151 @tab.s2)) (And.intro (And.intro @tab.s214 @tab.s23) (And.intro @tab.s3 (And.intro @tab.s35 @tab.s4)))) (And.intro (And.intro (And.intro @tab.s5 @tab.u135) (And.intro @tab.u2 @tab.u214)) (And.intro (And.intro @tab.u23 @tab.u3) (And.intro @tab.u35 (And.intro @tab.u4 @tab.u5))))))
def bodpc5 :=
  (And.intro (And.intro (And.intro (And.intro @tab.a121 (And.intro @tab.a124 @tab.a162)) (And.intro @tab.a50 (And.intro @tab.f162x0 @tab.f162x1))) (And.intro (And.intro @tab.f162x2 (And.intro @tab.f162x3 @tab.f162x4)) (And.intro @tab.f204x0 (And.intro @tab.f204x1 @tab.f204x2)))) (And.intro (And.intro (And.intro @tab.f204x3 (And.intro @tab.f204x4 @tab.f204x5)) (And.intro @tab.f204x6 (And.intro @tab.s121 @tab.s124))) (And.intro (And.intro @tab.s162 (And.intro @tab.s204 @tab.s50)) (And.intro @tab.u121 (And.intro @tab.u124 @tab.u50)))))
def bodpc6 :=
  (And.intro (And.intro @tab.f151x0 @tab.f151x13) (And.intro @tab.f151x5 (And.intro @tab.f151x6 @tab.f151x7)))
def bodpb1 :=
  (And.intro (And.intro bodpc3 (And.intro bodpc0 bodpc4)) (And.intro (And.intro bodpc5 bodpc6) (And.intro @fh_flat @fk_flat)))
def bodpb2 :=
  (And.intro (And.intro (And.intro @List.length_cons.{0} @List.length_nil.{0}) (And.intro @Nat.zero_add @roL_in)) (And.intro (And.intro @roL_nil @roL_none) (And.intro @roL_row @ro_mk)))
def bodpb3 :=
  (And.intro bodpc1 (And.intro @fh_flat @fk_flat))
def bodpb4 :=
  (And.intro bodpc4 (And.intro bodpc5 bodpc6))
def bodpb5 :=
  (And.intro (And.intro (And.intro bodpc3 (And.intro bodpc0 bodpc4)) (And.intro bodpc5 (And.intro bodpc6 @bwk_a))) (And.intro (And.intro @eq_self.{1} (And.intro @fh_flat @fk_flat)) (And.intro @forall_const.{1} (And.intro @implies_true.{0} @implies_true.{1}))))
def bodpb6 :=
  (And.intro (And.intro (And.intro bodpc3 bodpc0) (And.intro bodpc4 bodpc5)) (And.intro (And.intro bodpc6 @bs124) (And.intro @fh_flat @fk_flat)))
set_option maxHeartbeats 4000000 in
theorem greeted_ack (id pid aid : I16) (up : Bool) (mi mn pi pn fi fn ti tn nxi nxn base got : Int) (ts : List (List UInt8))
    (h1 : (decide (fi < pi) || (decide (fi = pi) && decide (fn < pn))) = false) (h0 : (decide (fi = 0) && decide (fn = 0)) = false) (h2 : (decide (pi < fi) || (decide (pi = fi) && decide (pn < fn))) = false)
    (hc : (decide (ti = mi) && decide (tn = mn)) = true) :
    SCall Try.prog 140 [.ptr 0 0 0, .agg (H1.c ⟨.v (.int .i64 fi), .v (.int .i64 fn), .v (.int .i64 ti), .v (.int .i64 tn), aid⟩), .agg [.v (.int .i64 nxi), .v (.int .i64 nxn)]] [some (.row ⟨39, 1, true, 204, fun _ => EC.c ⟨id, .v (.bool up), .v (.bool true), .v (.int .i64 mi), .v (.int .i64 mn), .v (.int .i64 pi), .v (.int .i64 pn), pid, .ptr 1 0 0⟩⟩), some (.row ⟨3, 1, false, 197, fun _ => [.v (.int .i64 base), .slc 2 0 ts.length, .v (.int .i64 got)]⟩), some (.row ⟨1, ts.length, false, 35, trow ts⟩)]
      fun r L => r = .ret (.agg [.v (.bool false), .v (.bool false), .v (.slice none 0 0), .v (.bool false), .slc 3 0 1]) ∧
        L = [some (.row ⟨39, 1, true, 204, fun _ => EC.c ⟨id, .v (.bool up), .v (.bool true), .v (.int .i64 mi), .v (.int .i64 mn), .v (.int .i64 pi), .v (.int .i64 pn), pid, .ptr 1 0 0⟩⟩), none, none, some (.row ⟨95, 1, true, 151, fun _ => FC.c { zF with kind := .v (.int .i64 3), fi := .v (.int .i64 mi), fn := .v (.int .i64 mn), ti := .v (.int .i64 pi), tn := .v (.int .i64 pn), n := .v (.int .i64 got) }⟩)] := by
  have hh := ack_calls id pid up true mi mn pi pn base got ts
  refine SCall.mk (fn := Try.f140) (by kernel_rfl) rfl (Nat.le_of_ble_eq_true (by kernel_rfl)) ?_
  refine Sem.go (k := 1000) ?_
  simp -dsimp (decide := true) (disch := first | omega | simp (decide := true) only [bodpb0]) only [bodpb1, ↓brun_b, envOf, reduceIte, Nat.reduceEqDiff, Nat.reduceAdd, Nat.reduceSub, Nat.reduceMul, Nat.reduceBEq, Nat.reduceLeDiff, Nat.reduceLT, Int.reduceToNat, rho]
  refine Sem.draw' (by kernel_rfl) (.one 0 (.one 1 (.one 2 (.one 3 (.one 4 (.one 5 (.alt 6 (.one 7 (.one 8 (.one 9 (.one 10 (.one 11 (.one 12 .done)))))) .non))))))) [] (by kernel_rfl) (fun G ff hG hf => ?_)
  simp (decide := true) only [bodpb2, Nat.reduceAdd] at hG ⊢
  simp -dsimp (decide := true) (disch := first | omega | simp (decide := true) only [bodpb0]) only [bodpb1, ↓brun_b, envOf, reduceIte, Nat.reduceEqDiff, Nat.reduceAdd, Nat.reduceSub, Nat.reduceMul, Nat.reduceBEq, Nat.reduceLeDiff, Nat.reduceLT, Int.reduceToNat, rho, hG]
  refine OpSem.callq cal.f171 (numLess_calls fi fn pi pn) rfl rfl rfl (by simp only [bflat_a, bodpb3]) (by simp only [bflat_a, bodpb3]) (by simp -dsimp (decide := true) (disch := first | omega | simp (decide := true) only [bodpb0]) only [bodpb4, ↓brun_b, envOf, reduceIte, Nat.reduceEqDiff, Nat.reduceAdd, Nat.reduceSub, Nat.reduceMul, Nat.reduceBEq, Nat.reduceLeDiff, Nat.reduceLT, Int.reduceToNat]) ?_
  simp -dsimp (decide := true) (disch := first | omega | simp (decide := true) only [bodpb0]) only [bodpb1, ↓brun_b, envOf, reduceIte, Nat.reduceEqDiff, Nat.reduceAdd, Nat.reduceSub, Nat.reduceMul, Nat.reduceBEq, Nat.reduceLeDiff, Nat.reduceLT, Int.reduceToNat, rho, sBin_agg .eql 23 _ _ _ (I16.cellsEq _ _), sBin_agg .eql 135 _ _ _ (ceq135 _ _ _ _), sBin_agg .neq 23 _ _ _ (I16.cellsEq _ _), sBin_agg .neq 135 _ _ _ (ceq135 _ _ _ _), hG, h1, h0]
  refine And.intro (flat135 _ _ _ _) ?_
  refine hf _ (Sem.go (k := 1000) ?_)
  simp (decide := true) only [back_mk, backL_in, backL_row, backL_none, backL_nil, Nat.zero_add, Nat.reduceAdd]
  simp -dsimp (decide := true) (disch := first | omega | simp (decide := true) only [bodpb0]) only [bodpb1, ↓brun_b, envOf, reduceIte, Nat.reduceEqDiff, Nat.reduceAdd, Nat.reduceSub, Nat.reduceMul, Nat.reduceBEq, Nat.reduceLeDiff, Nat.reduceLT, Int.reduceToNat, rho]
  refine Sem.draw' (by kernel_rfl) (.one 0 (.one 1 (.one 2 (.one 3 (.one 4 (.one 5 (.alt 6 .done .non))))))) [] (by kernel_rfl) (fun G ff hG hf => ?_)
  simp (decide := true) only [bodpb2, Nat.reduceAdd] at hG ⊢
  simp -dsimp (decide := true) (disch := first | omega | simp (decide := true) only [bodpb0]) only [bodpb1, ↓brun_b, envOf, reduceIte, Nat.reduceEqDiff, Nat.reduceAdd, Nat.reduceSub, Nat.reduceMul, Nat.reduceBEq, Nat.reduceLeDiff, Nat.reduceLT, Int.reduceToNat, rho, hG]
  refine OpSem.callq cal.f171 (numLess_calls pi pn fi fn) rfl rfl rfl (by simp only [bflat_a, bodpb3]) (by simp only [bflat_a, bodpb3]) (by simp -dsimp (decide := true) (disch := first | omega | simp (decide := true) only [bodpb0]) only [bodpb4, ↓brun_b, envOf, reduceIte, Nat.reduceEqDiff, Nat.reduceAdd, Nat.reduceSub, Nat.reduceMul, Nat.reduceBEq, Nat.reduceLeDiff, Nat.reduceLT, Int.reduceToNat]) ?_
  simp -dsimp (decide := true) (disch := first | omega | simp (decide := true) only [bodpb0]) only [bodpb1, ↓brun_b, envOf, reduceIte, Nat.reduceEqDiff, Nat.reduceAdd, Nat.reduceSub, Nat.reduceMul, Nat.reduceBEq, Nat.reduceLeDiff, Nat.reduceLT, Int.reduceToNat, rho, hG, h2]
  refine hf _ (Sem.go (k := 1000) ?_)
  simp (decide := true) only [back_mk, backL_in, backL_row, backL_none, backL_nil, Nat.zero_add, Nat.reduceAdd]
  simp -dsimp (decide := true) (disch := first | omega | simp (decide := true) only [bodpb0]) only [bodpb1, ↓brun_b, envOf, reduceIte, Nat.reduceEqDiff, Nat.reduceAdd, Nat.reduceSub, Nat.reduceMul, Nat.reduceBEq, Nat.reduceLeDiff, Nat.reduceLT, Int.reduceToNat, rho]
  refine Sem.draw' (by kernel_rfl) (.one 0 (.one 1 (.one 2 (.one 3 (.one 4 (.one 5 (.one 6 (.one 7 (.one 8 (.one 9 (.one 10 (.one 11 (.one 12 (.one 13 .done)))))))))))))) [] (by kernel_rfl) (fun G ff hG hf => ?_)
  simp (decide := true) only [bodpb2, Nat.reduceAdd] at hG ⊢
  simp -dsimp (decide := true) (disch := first | omega | simp (decide := true) only [bodpb0]) only [bodpb1, ↓brun_b, envOf, reduceIte, Nat.reduceEqDiff, Nat.reduceAdd, Nat.reduceSub, Nat.reduceMul, Nat.reduceBEq, Nat.reduceLeDiff, Nat.reduceLT, Int.reduceToNat, rho, sBin_agg .eql 23 _ _ _ (I16.cellsEq _ _), sBin_agg .eql 135 _ _ _ (ceq135 _ _ _ _), sBin_agg .neq 23 _ _ _ (I16.cellsEq _ _), sBin_agg .neq 135 _ _ _ (ceq135 _ _ _ _), hG, hc]
  refine And.intro (flat135 _ _ _ _) ?_
  refine hf _ (Sem.go (k := 1000) ?_)
  simp (decide := true) only [back_mk, backL_in, backL_row, backL_none, backL_nil, Nat.zero_add, Nat.reduceAdd]
  simp -dsimp (decide := true) (disch := first | omega | simp (decide := true) only [bodpb0]) only [bodpb1, ↓brun_b, envOf, reduceIte, Nat.reduceEqDiff, Nat.reduceAdd, Nat.reduceSub, Nat.reduceMul, Nat.reduceBEq, Nat.reduceLeDiff, Nat.reduceLT, Int.reduceToNat, rho]
  refine Sem.draw' (by kernel_rfl) (.one 0 (.one 1 (.one 2 (.one 3 (.one 4 (.one 5 (.one 6 (.one 7 (.one 8 (.one 9 (.one 10 .done))))))))))) [] (by kernel_rfl) (fun G ff hG hf => ?_)
  simp (decide := true) only [bodpb2, Nat.reduceAdd] at hG ⊢
  simp -dsimp (decide := true) (disch := first | omega | simp (decide := true) only [bodpb0]) only [bodpb1, ↓brun_b, envOf, reduceIte, Nat.reduceEqDiff, Nat.reduceAdd, Nat.reduceSub, Nat.reduceMul, Nat.reduceBEq, Nat.reduceLeDiff, Nat.reduceLT, Int.reduceToNat, rho, sBin_agg .eql 23 _ _ _ (I16.cellsEq _ _), sBin_agg .eql 135 _ _ _ (ceq135 _ _ _ _), sBin_agg .neq 23 _ _ _ (I16.cellsEq _ _), sBin_agg .neq 135 _ _ _ (ceq135 _ _ _ _), hG, hc]
  refine And.intro (flat135 _ _ _ _) ?_
  refine hf _ (Sem.go (k := 1000) ?_)
  simp (decide := true) only [back_mk, backL_in, backL_row, backL_none, backL_nil, Nat.zero_add, Nat.reduceAdd]
  simp -dsimp (decide := true) (disch := first | omega | simp (decide := true) only [bodpb0]) only [bodpb1, ↓brun_b, envOf, reduceIte, Nat.reduceEqDiff, Nat.reduceAdd, Nat.reduceSub, Nat.reduceMul, Nat.reduceBEq, Nat.reduceLeDiff, Nat.reduceLT, Int.reduceToNat, rho]
  refine Sem.draw' (by kernel_rfl) (.one 0 (.one 2 (.alt 1 (.alt 3 (.alt 4 (.alt 5 (.one 6 (.alt 7 .done .non)) .non) .non) .non) (.alt 3 (.alt 1 (.alt 4 (.alt 5 (.one 6 (.alt 7 .done .non)) .non) .non) (.alt 4 (.alt 1 (.alt 5 (.one 6 (.alt 7 .done .non)) .non) .non) .non)) .non)))) [6] (by kernel_rfl) (fun G ff hG hf => ?_)
  simp (decide := true) only [bodpb2, Nat.reduceAdd] at hG ⊢
  simp -dsimp (decide := true) (disch := first | omega | simp (decide := true) only [bodpb0]) only [bodpb1, ↓brun_b, envOf, reduceIte, Nat.reduceEqDiff, Nat.reduceAdd, Nat.reduceSub, Nat.reduceMul, Nat.reduceBEq, Nat.reduceLeDiff, Nat.reduceLT, Int.reduceToNat, rho, hG]
  refine And.intro ?_ ?_
  all_goals
    refine OpSem.callw [0, 1, 2] cal.f141 (hh) rfl rfl (by simp -dsimp (decide := true) (disch := first | omega | simp (decide := true) only [bodpb0]) only [bodpb5, ↓brun_b, envOf, reduceIte, Nat.reduceEqDiff, Nat.reduceAdd, Nat.reduceSub, Nat.reduceMul, Nat.reduceBEq, Nat.reduceLeDiff, Nat.reduceLT, Int.reduceToNat, rho, frz1, ↓reduceIte]) rfl (by simp -dsimp (decide := true) (disch := first | omega | simp (decide := true) only [bodpb0]) only [bodpb5, ↓brun_b, envOf, reduceIte, Nat.reduceEqDiff, Nat.reduceAdd, Nat.reduceSub, Nat.reduceMul, Nat.reduceBEq, Nat.reduceLeDiff, Nat.reduceLT, Int.reduceToNat, rho, frz1, ↓reduceIte]) (by simp -dsimp (decide := true) (disch := first | omega | simp (decide := true) only [bodpb0]) only [bodpb4, ↓brun_b, envOf, reduceIte, Nat.reduceEqDiff, Nat.reduceAdd, Nat.reduceSub, Nat.reduceMul, Nat.reduceBEq, Nat.reduceLeDiff, Nat.reduceLT, Int.reduceToNat]) ?_
    simp -dsimp (decide := true) (disch := first | omega | simp (decide := true) only [bodpb0]) only [bodpb6, ↓brun_b, envOf, reduceIte, Nat.reduceEqDiff, Nat.reduceAdd, Nat.reduceSub, Nat.reduceMul, Nat.reduceBEq, Nat.reduceLeDiff, Nat.reduceLT, Int.reduceToNat, rho, hG, sapp1_sl el151, Nat.le_refl]
    (repeat' refine And.intro ?_ ?_)
    all_goals
      refine hf _ (Sem.go (k := 1000) ?_)
      simp (decide := true) only [back_mk, backL_in, backL_row, backL_none, backL_nil, Nat.zero_add, Nat.reduceAdd]
      simp -dsimp (decide := true) (disch := first | omega | simp (decide := true) only [bodpb0]) only [bodpb1, ↓brun_b, envOf, reduceIte, Nat.reduceEqDiff, Nat.reduceAdd, Nat.reduceSub, Nat.reduceMul, Nat.reduceBEq, Nat.reduceLeDiff, Nat.reduceLT, Int.reduceToNat, rho]
      refine SQ.runL (rs := [.cell 6 162]) [0, 1, 2, 8] _ _ rfl (And.intro rfl rfl) (by decide) rfl rfl ?_ ?_
      · simp -dsimp (decide := true) (disch := first | omega | simp (decide := true) only [bodpb0]) only [bodpb5, ↓brun_b, envOf, reduceIte, Nat.reduceEqDiff, Nat.reduceAdd, Nat.reduceSub, Nat.reduceMul, Nat.reduceBEq, Nat.reduceLeDiff, Nat.reduceLT, Int.reduceToNat, rho, frz1, ↓reduceIte]
        intro e he
        obtain rfl : e = 0 := by omega
        first | exact appF_el _ 0 he (fk_flat _ _ _ _ _) | exact one124 _ 0 he (fk_flat _ _ _ _ _)
      · simp -dsimp (decide := true) (disch := first | omega | simp (decide := true) only [bodpb0]) only [bodpb5, ↓brun_b, envOf, reduceIte, Nat.reduceEqDiff, Nat.reduceAdd, Nat.reduceSub, Nat.reduceMul, Nat.reduceBEq, Nat.reduceLeDiff, Nat.reduceLT, Int.reduceToNat, rho, frz1, ↓reduceIte]
theorem greeted_bad (id pid aid : I16) (up op : Bool) (mi mn pi pn fi fn ti tn nxi nxn base got : Int) (ts : List (List UInt8))
    (hb : ((decide (fi < pi) || (decide (fi = pi) && decide (fn < pn))) || (decide (fi = 0) && decide (fn = 0))) = true) :
    SCall Try.prog 140 [.ptr 0 0 0, .agg (H1.c ⟨.v (.int .i64 fi), .v (.int .i64 fn), .v (.int .i64 ti), .v (.int .i64 tn), aid⟩), .agg [.v (.int .i64 nxi), .v (.int .i64 nxn)]] [some (.row ⟨39, 1, false, 204, fun _ => EC.c ⟨id, .v (.bool up), .v (.bool op), .v (.int .i64 mi), .v (.int .i64 mn), .v (.int .i64 pi), .v (.int .i64 pn), pid, .ptr 1 0 0⟩⟩), some (.row ⟨3, 1, false, 197, fun _ => [.v (.int .i64 base),   .slc 2 0 ts.length, .v (.int .i64 got)]⟩), some (.row ⟨1, ts.length, false, 35, trow ts⟩)]
      fun r L => r = .ret (.agg [.v (.bool false), .v (.bool false), .v (.slice none 0 0), .v (.bool false), .v (.slice none 0 0)]) ∧ L = [none, none, none] := by
  cases h1 : (decide (fi < pi) || (decide (fi = pi) && decide (fn < pn)))
  · rw [h1, Bool.false_or] at hb
    refine SCall.mk (fn := Try.f140) (by kernel_rfl) rfl (Nat.le_of_ble_eq_true (by kernel_rfl)) ?_
    refine Sem.go (k := 1000) ?_
    simp -dsimp (decide := true) (disch := first | omega | simp (decide := true) only [bodpb0]) only [bodpb1, ↓brun_b, envOf, reduceIte, Nat.reduceEqDiff, Nat.reduceAdd, Nat.reduceSub, Nat.reduceMul, Nat.reduceBEq, Nat.reduceLeDiff, Nat.reduceLT, Int.reduceToNat, rho]
    refine Sem.draw' (by kernel_rfl) (.one 0 (.one 1 (.one 2 (.one 3 (.one 4 (.one 5 (.alt 6 (.one 7 (.one 8 (.one 9 (.one 10 (.one 11 (.one 12 .done)))))) .non))))))) [] (by kernel_rfl) (fun G ff hG hf => ?_)
    simp (decide := true) only [bodpb2, Nat.reduceAdd] at hG ⊢
    simp -dsimp (decide := true) (disch := first | omega | simp (decide := true) only [bodpb0]) only [bodpb1, ↓brun_b, envOf, reduceIte, Nat.reduceEqDiff, Nat.reduceAdd, Nat.reduceSub, Nat.reduceMul, Nat.reduceBEq, Nat.reduceLeDiff, Nat.reduceLT, Int.reduceToNat, rho, hG]
    refine OpSem.callq cal.f171 (numLess_calls fi fn pi pn) rfl rfl rfl (by simp only [bflat_a, bodpb3]) (by simp only [bflat_a, bodpb3]) (by simp -dsimp (decide := true) (disch := first | omega | simp (decide := true) only [bodpb0]) only [bodpb4, ↓brun_b, envOf, reduceIte, Nat.reduceEqDiff, Nat.reduceAdd, Nat.reduceSub, Nat.reduceMul, Nat.reduceBEq, Nat.reduceLeDiff, Nat.reduceLT, Int.reduceToNat]) ?_
    simp -dsimp (decide := true) (disch := first | omega | simp (decide := true) only [bodpb0]) only [bodpb1, ↓brun_b, envOf, reduceIte, Nat.reduceEqDiff, Nat.reduceAdd, Nat.reduceSub, Nat.reduceMul, Nat.reduceBEq, Nat.reduceLeDiff, Nat.reduceLT, Int.reduceToNat, rho, sBin_agg .eql 23 _ _ _ (I16.cellsEq _ _), sBin_agg .eql 135 _ _ _ (ceq135 _ _ _ _), sBin_agg .neq 23 _ _ _ (I16.cellsEq _ _), sBin_agg .neq 135 _ _ _ (ceq135 _ _ _ _), hG, h1, hb]
    refine And.intro (flat135 _ _ _ _) ?_
    refine hf _ (Sem.go (k := 1000) ?_)
    simp (decide := true) only [back_mk, backL_in, backL_row, backL_none, backL_nil, Nat.zero_add, Nat.reduceAdd]
    simp -dsimp (decide := true) (disch := first | omega | simp (decide := true) only [bodpb0]) only [bodpb1, ↓brun_b, envOf, reduceIte, Nat.reduceEqDiff, Nat.reduceAdd, Nat.reduceSub, Nat.reduceMul, Nat.reduceBEq, Nat.reduceLeDiff, Nat.reduceLT, Int.reduceToNat, rho]
    refine SQ.runL (rs := [.cell 6 162]) [0, 1, 2] _ _ rfl (And.intro rfl rfl) (by decide) rfl rfl ?_ ?_
    · simp -dsimp (decide := true) (disch := first | omega | simp (decide := true) only [bodpb0]) only [bodpb5, ↓brun_b, envOf, reduceIte, Nat.reduceEqDiff, Nat.reduceAdd, Nat.reduceSub, Nat.reduceMul, Nat.reduceBEq, Nat.reduceLeDiff, Nat.reduceLT, Int.reduceToNat, rho, frz1, ↓reduceIte]
    · simp -dsimp (decide := true) (disch := first | omega | simp (decide := true) only [bodpb0]) only [bodpb5, ↓brun_b, envOf, reduceIte, Nat.reduceEqDiff, Nat.reduceAdd, Nat.reduceSub, Nat.reduceMul, Nat.reduceBEq, Nat.reduceLeDiff, Nat.reduceLT, Int.reduceToNat, rho, frz1, ↓reduceIte]
  · refine SCall.mk (fn := Try.f140) (by kernel_rfl) rfl (Nat.le_of_ble_eq_true (by kernel_rfl)) ?_
    refine Sem.go (k := 1000) ?_
    simp -dsimp (decide := true) (disch := first | omega | simp (decide := true) only [bodpb0]) only [bodpb1, ↓brun_b, envOf, reduceIte, Nat.reduceEqDiff, Nat.reduceAdd, Nat.reduceSub, Nat.reduceMul, Nat.reduceBEq, Nat.reduceLeDiff, Nat.reduceLT, Int.reduceToNat, rho]
    refine Sem.draw' (by kernel_rfl) (.one 0 (.one 1 (.one 2 (.one 3 (.one 4 (.one 5 (.alt 6 (.one 7 (.one 8 (.one 9 (.one 10 (.one 11 (.one 12 .done)))))) .non))))))) [] (by kernel_rfl) (fun G ff hG hf => ?_)
    simp (decide := true) only [bodpb2, Nat.reduceAdd] at hG ⊢
    simp -dsimp (decide := true) (disch := first | omega | simp (decide := true) only [bodpb0]) only [bodpb1, ↓brun_b, envOf, reduceIte, Nat.reduceEqDiff, Nat.reduceAdd, Nat.reduceSub, Nat.reduceMul, Nat.reduceBEq, Nat.reduceLeDiff, Nat.reduceLT, Int.reduceToNat, rho, hG]
    refine OpSem.callq cal.f171 (numLess_calls fi fn pi pn) rfl rfl rfl (by simp only [bflat_a, bodpb3]) (by simp only [bflat_a, bodpb3]) (by simp -dsimp (decide := true) (disch := first | omega | simp (decide := true) only [bodpb0]) only [bodpb4, ↓brun_b, envOf, reduceIte, Nat.reduceEqDiff, Nat.reduceAdd, Nat.reduceSub, Nat.reduceMul, Nat.reduceBEq, Nat.reduceLeDiff, Nat.reduceLT, Int.reduceToNat]) ?_
    simp -dsimp (decide := true) (disch := first | omega | simp (decide := true) only [bodpb0]) only [bodpb1, ↓brun_b, envOf, reduceIte, Nat.reduceEqDiff, Nat.reduceAdd, Nat.reduceSub, Nat.reduceMul, Nat.reduceBEq, Nat.reduceLeDiff, Nat.reduceLT, Int.reduceToNat, rho, sBin_agg .eql 23 _ _ _ (I16.cellsEq _ _), sBin_agg .eql 135 _ _ _ (ceq135 _ _ _ _), sBin_agg .neq 23 _ _ _ (I16.cellsEq _ _), sBin_agg .neq 135 _ _ _ (ceq135 _ _ _ _), hG, h1]
    refine hf _ (Sem.go (k := 1000) ?_)
    simp (decide := true) only [back_mk, backL_in, backL_row, backL_none, backL_nil, Nat.zero_add, Nat.reduceAdd]
    simp -dsimp (decide := true) (disch := first | omega | simp (decide := true) only [bodpb0]) only [bodpb1, ↓brun_b, envOf, reduceIte, Nat.reduceEqDiff, Nat.reduceAdd, Nat.reduceSub, Nat.reduceMul, Nat.reduceBEq, Nat.reduceLeDiff, Nat.reduceLT, Int.reduceToNat, rho]
    refine SQ.runL (rs := [.cell 6 162]) [0, 1, 2] _ _ rfl (And.intro rfl rfl) (by decide) rfl rfl ?_ ?_
    · simp -dsimp (decide := true) (disch := first | omega | simp (decide := true) only [bodpb0]) only [bodpb5, ↓brun_b, envOf, reduceIte, Nat.reduceEqDiff, Nat.reduceAdd, Nat.reduceSub, Nat.reduceMul, Nat.reduceBEq, Nat.reduceLeDiff, Nat.reduceLT, Int.reduceToNat, rho, frz1, ↓reduceIte]
    · simp -dsimp (decide := true) (disch := first | omega | simp (decide := true) only [bodpb0]) only [bodpb5, ↓brun_b, envOf, reduceIte, Nat.reduceEqDiff, Nat.reduceAdd, Nat.reduceSub, Nat.reduceMul, Nat.reduceBEq, Nat.reduceLeDiff, Nat.reduceLT, Int.reduceToNat, rho, frz1, ↓reduceIte]
end Go.Proofs
namespace Go.SL
open Go
theorem flatR_getD : ∀ (rows : List (List SV)) (i : Nat) (r : List SV), SV.flatR rows = true → rows[i]? = some r → SV.flatL r = true
  | [], i, r, _, h => by simp at h
  | x :: rows, 0, r, hf, h => by
    simp only [flatR_cons, Bool.and_eq_true] at hf
    simp only [List.getElem?_cons_zero, Option.some.injEq] at h
    exact h ▸ hf.1
  | x :: rows, i + 1, r, hf, h => by
    simp only [flatR_cons, Bool.and_eq_true] at hf
    exact flatR_getD rows i r hf.2 (by simpa using h)
theorem app_row {fz : Nat → Option SB} {ρ : Nat → Nat} (rows : List (List SV)) (hf : SV.flatR rows = true) (i : Nat) (r : List SV) (h : rows[i]? = some r) : EntL fz ρ r (if 0 + i < 0 then [] else rows.getD (0 + i - 0) []) := by
  have e : (if 0 + i < 0 then [] else rows.getD (0 + i - 0) []) = r := by
    simp [List.getD_eq_getElem?_getD, h]
  rw [e]
  exact EntL.self (flatR_getD rows i r hf h)
end Go.SL
namespace Go.Proofs
open Go Go.SL
set_option maxRecDepth 100000
theorem bl210 (fi fn ti tn n : Int) (b k : Nat) : sBuild Try.prog 210 [(0, .agg [.v (.int .i64 fi), .v (.int .i64 fn)]), (1, .agg [.v (.int .i64 ti), .v (.int .i64 tn)]), (2, .v (.int .i64 n)), (3, .slc b 0 k)] = some ⟨.agg [.v (.int .i64 fi), .v (.int .i64 fn), .v (.int .i64 ti), .v (.int .i64 tn), .v (.int .i64 n), .slc b 0 k], {}, True⟩ := by
  rw [sBuild_eq, tab.z210, tab.l210]; rfl
def bodpc7 :=
  (And.intro (And.intro @FC.at_kind (And.intro @FC.at_n @FC.at_op)) (And.intro (And.intro @FC.at_tx @FC.part_a) (And.intro @FC.part_from @FC.part_to)))
def bodpc8 :=
  (And.intro (And.intro (And.intro @tab.f210x0 @tab.f210x1) (And.intro @tab.f210x2 (And.intro @tab.f210x3 @tab.f218x0))) (And.intro (And.intro @tab.f218x1 (And.intro @tab.f218x2 @tab.s210)) (And.intro @tab.s218 (And.intro @tab.u210 @tab.u218))))
def bodpb7 :=
  (And.intro (And.intro (And.intro bodpc3 bodpc0) (And.intro bodpc7 bodpc4)) (And.intro (And.intro bodpc6 bodpc8) (And.intro @bl218 (And.intro @fh_flat @fk_flat))))
def bodpb8 :=
  (And.intro (And.intro (And.intro bodpc3 (And.intro bodpc0 bodpc4)) (And.intro bodpc6 (And.intro bodpc8 @bwk_a))) (And.intro (And.intro @eq_self.{1} (And.intro @fh_flat @fk_flat)) (And.intro @forall_const.{1} (And.intro @implies_true.{0} @implies_true.{1}))))
theorem of_ack (F : Frm) (hk : F.kind = 3) : Pure Try.prog 119 [.agg F.fc.c] (.tup [.ifc 218 (.agg [.v (.int .i64 F.fi), .v (.int .i64 F.fn), .v (.int .i64 F.ti), .v (.int .i64 F.tn), .v (.int .i64 F.n)]), .v (.bool true)]) := by
  refine SCall.mk (fn := Try.f119) (by kernel_rfl) rfl (Nat.le_of_ble_eq_true (by kernel_rfl)) ?_
  refine Sem.go (k := 1000) ?_
  simp -dsimp (decide := true) (disch := first | omega | simp (decide := true) only [bodpb0]) only [bodpb7, ↓brun_b, envOf, reduceIte, Nat.reduceEqDiff, Nat.reduceAdd, Nat.reduceSub, Nat.reduceMul, Nat.reduceBEq, Nat.reduceLeDiff, Nat.reduceLT, Int.reduceToNat, rho, Frm.fc, hk]
  refine SQ.answer (rs := [.tmp 2, .tmp 3]) rfl rfl ?_
  simp -dsimp (decide := true) (disch := first | omega | simp (decide := true) only [bodpb0]) only [bodpb8, ↓brun_b, envOf, reduceIte, Nat.reduceEqDiff, Nat.reduceAdd, Nat.reduceSub, Nat.reduceMul, Nat.reduceBEq, Nat.reduceLeDiff, Nat.reduceLT, Int.reduceToNat, rho, frz1, ↓reduceIte]
def bodpb9 :=
  (And.intro (And.intro (And.intro bodpc3 bodpc0) (And.intro bodpc7 bodpc4)) (And.intro (And.intro bodpc6 bodpc8) (And.intro @fh_flat @fk_flat)))
def bodpb10 :=
  (And.intro (And.intro (And.intro bodpc3 bodpc0) (And.intro bodpc7 bodpc4)) (And.intro (And.intro bodpc6 bodpc8) (And.intro @bl210 (And.intro @fh_flat @fk_flat))))
theorem of_data (F : Frm) (hk : F.kind = 2) (h2 : F.tx.length ≤ 140737488355328) : Pure Try.prog 119 [.agg F.fc.c] (.tup [.ifc 210 (.agg [.v (.int .i64 F.fi), .v (.int .i64 F.fn), .v (.int .i64 F.ti), .v (.int .i64 F.tn), .v (.int .i64 F.n), bsl F.tx]), .v (.bool true)]) := by
  refine SCall.mk (fn := Try.f119) (by kernel_rfl) rfl (Nat.le_of_ble_eq_true (by kernel_rfl)) ?_
  refine Sem.go (k := 1000) ?_
  simp -dsimp (decide := true) (disch := first | omega | simp (decide := true) only [bodpb0]) only [bodpb9, ↓brun_b, envOf, reduceIte, Nat.reduceEqDiff, Nat.reduceAdd, Nat.reduceSub, Nat.reduceMul, Nat.reduceBEq, Nat.reduceLeDiff, Nat.reduceLT, Int.reduceToNat, rho, Frm.fc, hk]
  refine Sem.draw' (by kernel_rfl) (.one 0 (.one 1 (.one 2 (.one 3 (.one 4 (.one 5 (.one 6 (.one 7 (.alt 8 (.one 9 (.one 10 (.one 11 (.one 12 .done)))) .non))))))))) [] (by kernel_rfl) (fun G ff hG hf => ?_)
  simp (decide := true) only [bodpb2, Nat.reduceAdd] at hG ⊢
  simp -dsimp (decide := true) (disch := first | omega | simp (decide := true) only [bodpb0]) only [bodpb10, ↓brun_b, envOf, reduceIte, Nat.reduceEqDiff, Nat.reduceAdd, Nat.reduceSub, Nat.reduceMul, Nat.reduceBEq, Nat.reduceLeDiff, Nat.reduceLT, Int.reduceToNat, rho, hG, sapp1_sl el5, h2, Nat.le_refl]
  refine hf _ (Sem.go (k := 1000) ?_)
  simp (decide := true) only [back_mk, backL_in, backL_row, backL_none, backL_nil, Nat.zero_add, Nat.reduceAdd]
  simp -dsimp (decide := true) (disch := first | omega | simp (decide := true) only [bodpb0]) only [bodpb9, ↓brun_b, envOf, reduceIte, Nat.reduceEqDiff, Nat.reduceAdd, Nat.reduceSub, Nat.reduceMul, Nat.reduceBEq, Nat.reduceLeDiff, Nat.reduceLT, Int.reduceToNat, rho]
  refine SQ.answer (rs := [.tmp 2, .tmp 3]) rfl rfl ?_
  simp -dsimp (decide := true) (disch := first | omega | simp (decide := true) only [bodpb0]) only [bodpb8, ↓brun_b, envOf, reduceIte, Nat.reduceEqDiff, Nat.reduceAdd, Nat.reduceSub, Nat.reduceMul, Nat.reduceBEq, Nat.reduceLeDiff, Nat.reduceLT, Int.reduceToNat, rho, frz1, ↓reduceIte]
  exact Ent_row rfl rfl (brows_length _).symm (by omega) fun i r hr => app_row _ (flatR_brows _) i r hr
end Go.Proofs
namespace Go.SL
open Go
structure SU where
  who : I16
  pn : SV
  a : I16
  b : I16
  tr : SV
def SU.c (x : SU) : List SV := (x.who.c ++ (x.pn :: (x.a.c ++ (x.b.c ++ (x.tr :: [])))))
theorem SU.c_length (x : SU) : x.c.length = 50 := by simp [SU.c, I16.c_length]
theorem SU.part_a (x : SU) : spart true x.c 17 16 = .agg x.a.c := by simp [spart, SU.c, List.drop_append, List.take_append, I16.c_length, List.take_of_length_le, List.drop_of_length_le]
theorem SU.set_a (x : SU) (v : I16) : splice x.c 17 v.c = SU.c { x with a := v } := by simp [splice, SU.c, List.drop_append, List.take_append, I16.c_length, List.take_of_length_le, List.drop_of_length_le]
theorem SU.part (x : SU) : spart true x.c 0 50 = .agg x.c := by simp [spart, List.take_of_length_le, SU.c_length]
theorem SU.set_all (x y : SU) : splice x.c 0 y.c = y.c := splice_all _ _ (by rw [SU.c_length, SU.c_length])
theorem SU.one (x : SU) : x.c.all SV.one = (x.pn.one && x.tr.one) := by simp [SU.c, List.all_append, I16.one, Bool.and_assoc]
theorem SU.flat (x : SU) : SV.flatL x.c = (x.pn.flat && x.tr.flat) := by simp [SU.c, flatL_cons, flatL_app, I16.flat, flatL_nil, Bool.and_assoc]
theorem SU.renc (ρ : Nat → Nat) (x : SU) : SV.renL ρ x.c = SU.c ⟨x.who, SV.ren ρ x.pn, x.a, x.b, SV.ren ρ x.tr⟩ := by simp [SU.c, renL_cons, renL_append, renL_flat _ _ (I16.flat _), renL_nil]
theorem SU.ent {fz : Nat → Option SB} {ρ : Nat → Nat} (who : I16) (pn : SV) (a : I16) (b : I16) (tr : SV) (pn' : SV) (tr' : SV) : EntL fz ρ (SU.c ⟨who, pn, a, b, tr⟩) (SU.c ⟨who, pn', a, b, tr'⟩) = (Ent fz ρ pn pn' ∧ Ent fz ρ tr tr') := by
  simp only [SU.c, EntL_pre _ _ _ (I16.flat _), EntL_cons, EntL_nil, and_true, EntL_self _ (I16.flat _)]
structure DR where
  who : I16
  pn : SV
def DR.c (x : DR) : List SV := (x.who.c ++ (x.pn :: []))
theorem DR.c_length (x : DR) : x.c.length = 17 := by simp [DR.c, I16.c_length]
theorem DR.part (x : DR) : spart true x.c 0 17 = .agg x.c := by simp [spart, List.take_of_length_le, DR.c_length]
theorem DR.set_all (x y : DR) : splice x.c 0 y.c = y.c := splice_all _ _ (by rw [DR.c_length, DR.c_length])
theorem DR.one (x : DR) : x.c.all SV.one = (x.pn.one) := by simp [DR.c, List.all_append, I16.one, Bool.and_assoc]
theorem DR.flat (x : DR) : SV.flatL x.c = (x.pn.flat) := by simp [DR.c, flatL_cons, flatL_app, I16.flat, flatL_nil, Bool.and_assoc]
theorem DR.renc (ρ : Nat → Nat) (x : DR) : SV.renL ρ x.c = DR.c ⟨x.who, SV.ren ρ x.pn⟩ := by simp [DR.c, renL_cons, renL_append, renL_flat _ _ (I16.flat _), renL_nil]
theorem DR.ent {fz : Nat → Option SB} {ρ : Nat → Nat} (who : I16) (pn : SV) (pn' : SV) : EntL fz ρ (DR.c ⟨who, pn⟩) (DR.c ⟨who, pn'⟩) = (Ent fz ρ pn pn') := by
  simp only [DR.c, EntL_pre _ _ _ (I16.flat _), EntL_cons, EntL_nil, and_true, EntL_self _ (I16.flat _)]
structure PT where
  who : I16
  pn : SV
  toA : SV
def PT.c (x : PT) : List SV := (x.who.c ++ (x.pn :: (x.toA :: [])))
theorem PT.c_length (x : PT) : x.c.length = 18 := by simp [PT.c, I16.c_length]
theorem PT.part (x : PT) : spart true x.c 0 18 = .agg x.c := by simp [spart, List.take_of_length_le, PT.c_length]
theorem PT.set_all (x y : PT) : splice x.c 0 y.c = y.c := splice_all _ _ (by rw [PT.c_length, PT.c_length])
theorem PT.one (x : PT) : x.c.all SV.one = (x.pn.one && x.toA.one) := by simp [PT.c, List.all_append, I16.one, Bool.and_assoc]
theorem PT.flat (x : PT) : SV.flatL x.c = (x.pn.flat && x.toA.flat) := by simp [PT.c, flatL_cons, flatL_app, I16.flat, flatL_nil, Bool.and_assoc]
theorem PT.renc (ρ : Nat → Nat) (x : PT) : SV.renL ρ x.c = PT.c ⟨x.who, SV.ren ρ x.pn, SV.ren ρ x.toA⟩ := by simp [PT.c, renL_cons, renL_append, renL_flat _ _ (I16.flat _), renL_nil]
theorem PT.ent {fz : Nat → Option SB} {ρ : Nat → Nat} (who : I16) (pn : SV) (toA : SV) (pn' : SV) (toA' : SV) : EntL fz ρ (PT.c ⟨who, pn, toA⟩) (PT.c ⟨who, pn', toA'⟩) = (Ent fz ρ pn pn' ∧ Ent fz ρ toA toA') := by
  simp only [PT.c, EntL_pre _ _ _ (I16.flat _), EntL_cons, EntL_nil, and_true, EntL_self _ (I16.flat _)]
structure PE where
  who : I16
  pn : SV
  toA : SV
  is : SV
def PE.c (x : PE) : List SV := (x.who.c ++ (x.pn :: (x.toA :: (x.is :: []))))
theorem PE.c_length (x : PE) : x.c.length = 19 := by simp [PE.c, I16.c_length]
theorem PE.part (x : PE) : spart true x.c 0 19 = .agg x.c := by simp [spart, List.take_of_length_le, PE.c_length]
theorem PE.set_all (x y : PE) : splice x.c 0 y.c = y.c := splice_all _ _ (by rw [PE.c_length, PE.c_length])
theorem PE.one (x : PE) : x.c.all SV.one = (x.pn.one && x.toA.one && x.is.one) := by simp [PE.c, List.all_append, I16.one, Bool.and_assoc]
theorem PE.flat (x : PE) : SV.flatL x.c = (x.pn.flat && x.toA.flat && x.is.flat) := by simp [PE.c, flatL_cons, flatL_app, I16.flat, flatL_nil, Bool.and_assoc]
theorem PE.renc (ρ : Nat → Nat) (x : PE) : SV.renL ρ x.c = PE.c ⟨x.who, SV.ren ρ x.pn, SV.ren ρ x.toA, SV.ren ρ x.is⟩ := by simp [PE.c, renL_cons, renL_append, renL_flat _ _ (I16.flat _), renL_nil]
theorem PE.ent {fz : Nat → Option SB} {ρ : Nat → Nat} (who : I16) (pn : SV) (toA : SV) (is : SV) (pn' : SV) (toA' : SV) (is' : SV) : EntL fz ρ (PE.c ⟨who, pn, toA, is⟩) (PE.c ⟨who, pn', toA', is'⟩) = (Ent fz ρ pn pn' ∧ Ent fz ρ toA toA' ∧ Ent fz ρ is is') := by
  simp only [PE.c, EntL_pre _ _ _ (I16.flat _), EntL_cons, EntL_nil, and_true, EntL_self _ (I16.flat _)]
structure AK where
  a : I16
  b : I16
  op : SV
  who : I16
  pn : SV
  toA : SV
  tr : SV
def AK.c (x : AK) : List SV := (x.a.c ++ (x.b.c ++ (x.op :: (x.who.c ++ (x.pn :: (x.toA :: (x.tr :: [])))))))
theorem AK.c_length (x : AK) : x.c.length = 52 := by simp [AK.c, I16.c_length]
theorem AK.part_a (x : AK) : spart true x.c 0 16 = .agg x.a.c := by simp [spart, AK.c, List.drop_append, List.take_append, I16.c_length, List.take_of_length_le, List.drop_of_length_le]
theorem AK.set_a (x : AK) (v : I16) : splice x.c 0 v.c = AK.c { x with a := v } := by simp [splice, AK.c, List.drop_append, List.take_append, I16.c_length, List.take_of_length_le, List.drop_of_length_le]
theorem AK.at_op (x : AK) : cellAt x.c 32 = x.op := cellAt_get _ _ _ (by simp [AK.c, List.getElem?_append, I16.c_length])
theorem AK.set_op (x : AK) (v : SV) : splice x.c 32 [v] = AK.c { x with op := v } := by simp [splice, AK.c, List.drop_append, List.take_append, I16.c_length, List.take_of_length_le, List.drop_of_length_le]
theorem AK.part (x : AK) : spart true x.c 0 52 = .agg x.c := by simp [spart, List.take_of_length_le, AK.c_length]
theorem AK.set_all (x y : AK) : splice x.c 0 y.c = y.c := splice_all _ _ (by rw [AK.c_length, AK.c_length])
theorem AK.one (x : AK) : x.c.all SV.one = (x.op.one && x.pn.one && x.toA.one && x.tr.one) := by simp [AK.c, List.all_append, I16.one, Bool.and_assoc]
theorem AK.flat (x : AK) : SV.flatL x.c = (x.op.flat && x.pn.flat && x.toA.flat && x.tr.flat) := by simp [AK.c, flatL_cons, flatL_app, I16.flat, flatL_nil, Bool.and_assoc]
theorem AK.renc (ρ : Nat → Nat) (x : AK) : SV.renL ρ x.c = AK.c ⟨x.a, x.b, SV.ren ρ x.op, x.who, SV.ren ρ x.pn, SV.ren ρ x.toA, SV.ren ρ x.tr⟩ := by simp [AK.c, renL_cons, renL_append, renL_flat _ _ (I16.flat _), renL_nil]
theorem AK.ent {fz : Nat → Option SB} {ρ : Nat → Nat} (a : I16) (b : I16) (op : SV) (who : I16) (pn : SV) (toA : SV) (tr : SV) (op' : SV) (pn' : SV) (toA' : SV) (tr' : SV) : EntL fz ρ (AK.c ⟨a, b, op, who, pn, toA, tr⟩) (AK.c ⟨a, b, op', who, pn', toA', tr'⟩) = (Ent fz ρ op op' ∧ Ent fz ρ pn pn' ∧ Ent fz ρ toA toA' ∧ Ent fz ρ tr tr') := by
  simp only [AK.c, EntL_pre _ _ _ (I16.flat _), EntL_cons, EntL_nil, and_true, EntL_self _ (I16.flat _)]
structure AD where
  a : I16
  n : SV
def AD.c (x : AD) : List SV := (x.a.c ++ (x.n :: []))
theorem AD.c_length (x : AD) : x.c.length = 17 := by simp [AD.c, I16.c_length]
theorem AD.part_a (x : AD) : spart true x.c 0 16 = .agg x.a.c := by simp [spart, AD.c, List.drop_append, List.take_append, I16.c_length, List.take_of_length_le, List.drop_of_length_le]
theorem AD.set_a (x : AD) (v : I16) : splice x.c 0 v.c = AD.c { x with a := v } := by simp [splice, AD.c, List.drop_append, List.take_append, I16.c_length, List.take_of_length_le, List.drop_of_length_le]
theorem AD.at_n (x : AD) : cellAt x.c 16 = x.n := cellAt_get _ _ _ (by simp [AD.c, List.getElem?_append, I16.c_length])
theorem AD.set_n (x : AD) (v : SV) : splice x.c 16 [v] = AD.c { x with n := v } := by simp [splice, AD.c, List.drop_append, List.take_append, I16.c_length, List.take_of_length_le, List.drop_of_length_le]
theorem AD.part (x : AD) : spart true x.c 0 17 = .agg x.c := by simp [spart, List.take_of_length_le, AD.c_length]
theorem AD.set_all (x y : AD) : splice x.c 0 y.c = y.c := splice_all _ _ (by rw [AD.c_length, AD.c_length])
theorem AD.one (x : AD) : x.c.all SV.one = (x.n.one) := by simp [AD.c, List.all_append, I16.one, Bool.and_assoc]
theorem AD.flat (x : AD) : SV.flatL x.c = (x.n.flat) := by simp [AD.c, flatL_cons, flatL_app, I16.flat, flatL_nil, Bool.and_assoc]
theorem AD.renc (ρ : Nat → Nat) (x : AD) : SV.renL ρ x.c = AD.c ⟨x.a, SV.ren ρ x.n⟩ := by simp [AD.c, renL_cons, renL_append, renL_flat _ _ (I16.flat _), renL_nil]
theorem AD.ent {fz : Nat → Option SB} {ρ : Nat → Nat} (a : I16) (n : SV) (n' : SV) : EntL fz ρ (AD.c ⟨a, n⟩) (AD.c ⟨a, n'⟩) = (Ent fz ρ n n') := by
  simp only [AD.c, EntL_pre _ _ _ (I16.flat _), EntL_cons, EntL_nil, and_true, EntL_self _ (I16.flat _)]
structure PK where
  a : I16
  b : I16
  n : SV
  op : SV
  ttl : SV
  key : I16
  vn : SV
  vwho : I16
  val : SV
  tx : SV
def PK.c (x : PK) : List SV := (x.a.c ++ (x.b.c ++ (x.n :: (x.op :: (x.ttl :: (x.key.c ++ (x.vn :: (x.vwho.c ++ (x.val :: (x.tx :: []))))))))))
theorem PK.c_length (x : PK) : x.c.length = 70 := by simp [PK.c, I16.c_length]
theorem PK.part_a (x : PK) : spart true x.c 0 16 = .agg x.a.c := by simp [spart, PK.c, List.drop_append, List.take_append, I16.c_length, List.take_of_length_le, List.drop_of_length_le]
theorem PK.set_a (x : PK) (v : I16) : splice x.c 0 v.c = PK.c { x with a := v } := by simp [splice, PK.c, List.drop_append, List.take_append, I16.c_length, List.take_of_length_le, List.drop_of_length_le]
theorem PK.at_n (x : PK) : cellAt x.c 32 = x.n := cellAt_get _ _ _ (by simp [PK.c, List.getElem?_append, I16.c_length])
theorem PK.set_n (x : PK) (v : SV) : splice x.c 32 [v] = PK.c { x with n := v } := by simp [splice, PK.c, List.drop_append, List.take_append, I16.c_length, List.take_of_length_le, List.drop_of_length_le]
theorem PK.at_op (x : PK) : cellAt x.c 33 = x.op := cellAt_get _ _ _ (by simp [PK.c, List.getElem?_append, I16.c_length])
theorem PK.set_op (x : PK) (v : SV) : splice x.c 33 [v] = PK.c { x with op := v } := by simp [splice, PK.c, List.drop_append, List.take_append, I16.c_length, List.take_of_length_le, List.drop_of_length_le]
theorem PK.at_tx (x : PK) : cellAt x.c 69 = x.tx := cellAt_get _ _ _ (by simp [PK.c, List.getElem?_append, I16.c_length])
theorem PK.set_tx (x : PK) (v : SV) : splice x.c 69 [v] = PK.c { x with tx := v } := by simp [splice, PK.c, List.drop_append, List.take_append, I16.c_length, List.take_of_length_le, List.drop_of_length_le]
theorem PK.part (x : PK) : spart true x.c 0 70 = .agg x.c := by simp [spart, List.take_of_length_le, PK.c_length]
theorem PK.set_all (x y : PK) : splice x.c 0 y.c = y.c := splice_all _ _ (by rw [PK.c_length, PK.c_length])
theorem PK.one (x : PK) : x.c.all SV.one = (x.n.one && x.op.one && x.ttl.one && x.vn.one && x.val.one && x.tx.one) := by simp [PK.c, List.all_append, I16.one, Bool.and_assoc]
theorem PK.flat (x : PK) : SV.flatL x.c = (x.n.flat && x.op.flat && x.ttl.flat && x.vn.flat && x.val.flat && x.tx.flat) := by simp [PK.c, flatL_cons, flatL_app, I16.flat, flatL_nil, Bool.and_assoc]
theorem PK.renc (ρ : Nat → Nat) (x : PK) : SV.renL ρ x.c = PK.c ⟨x.a, x.b, SV.ren ρ x.n, SV.ren ρ x.op, SV.ren ρ x.ttl, x.key, SV.ren ρ x.vn, x.vwho, SV.ren ρ x.val, SV.ren ρ x.tx⟩ := by simp [PK.c, renL_cons, renL_append, renL_flat _ _ (I16.flat _), renL_nil]
theorem PK.ent {fz : Nat → Option SB} {ρ : Nat → Nat} (a : I16) (b : I16) (n : SV) (op : SV) (ttl : SV) (key : I16) (vn : SV) (vwho : I16) (val : SV) (tx : SV) (n' : SV) (op' : SV) (ttl' : SV) (vn' : SV) (val' : SV) (tx' : SV) : EntL fz ρ (PK.c ⟨a, b, n, op, ttl, key, vn, vwho, val, tx⟩) (PK.c ⟨a, b, n', op', ttl', key, vn', vwho, val', tx'⟩) = (Ent fz ρ n n' ∧ Ent fz ρ op op' ∧ Ent fz ρ ttl ttl' ∧ Ent fz ρ vn vn' ∧ Ent fz ρ val val' ∧ Ent fz ρ tx tx') := by
  simp only [PK.c, EntL_pre _ _ _ (I16.flat _), EntL_cons, EntL_nil, and_true, EntL_self _ (I16.flat _)]
structure CP where
  who : I16
  pn : SV
  toA : SV
  key : I16
  vn : SV
  vwho : I16
  val : SV
def CP.c (x : CP) : List SV := (x.who.c ++ (x.pn :: (x.toA :: (x.key.c ++ (x.vn :: (x.vwho.c ++ (x.val :: [])))))))
theorem CP.c_length (x : CP) : x.c.length = 52 := by simp [CP.c, I16.c_length]
theorem CP.part (x : CP) : spart true x.c 0 52 = .agg x.c := by simp [spart, List.take_of_length_le, CP.c_length]
theorem CP.set_all (x y : CP) : splice x.c 0 y.c = y.c := splice_all _ _ (by rw [CP.c_length, CP.c_length])
theorem CP.one (x : CP) : x.c.all SV.one = (x.pn.one && x.toA.one && x.vn.one && x.val.one) := by simp [CP.c, List.all_append, I16.one, Bool.and_assoc]
theorem CP.flat (x : CP) : SV.flatL x.c = (x.pn.flat && x.toA.flat && x.vn.flat && x.val.flat) := by simp [CP.c, flatL_cons, flatL_app, I16.flat, flatL_nil, Bool.and_assoc]
theorem CP.renc (ρ : Nat → Nat) (x : CP) : SV.renL ρ x.c = CP.c ⟨x.who, SV.ren ρ x.pn, SV.ren ρ x.toA, x.key, SV.ren ρ x.vn, x.vwho, SV.ren ρ x.val⟩ := by simp [CP.c, renL_cons, renL_append, renL_flat _ _ (I16.flat _), renL_nil]
theorem CP.ent {fz : Nat → Option SB} {ρ : Nat → Nat} (who : I16) (pn : SV) (toA : SV) (key : I16) (vn : SV) (vwho : I16) (val : SV) (pn' : SV) (toA' : SV) (vn' : SV) (val' : SV) : EntL fz ρ (CP.c ⟨who, pn, toA, key, vn, vwho, val⟩) (CP.c ⟨who, pn', toA', key, vn', vwho, val'⟩) = (Ent fz ρ pn pn' ∧ Ent fz ρ toA toA' ∧ Ent fz ρ vn vn' ∧ Ent fz ρ val val') := by
  simp only [CP.c, EntL_pre _ _ _ (I16.flat _), EntL_cons, EntL_nil, and_true, EntL_self _ (I16.flat _)]
structure GT where
  who : I16
  pn : SV
  toA : SV
  key : I16
  vn : SV
  vwho : I16
def GT.c (x : GT) : List SV := (x.who.c ++ (x.pn :: (x.toA :: (x.key.c ++ (x.vn :: (x.vwho.c ++ []))))))
theorem GT.c_length (x : GT) : x.c.length = 51 := by simp [GT.c, I16.c_length]
theorem GT.part (x : GT) : spart true x.c 0 51 = .agg x.c := by simp [spart, List.take_of_length_le, GT.c_length]
theorem GT.set_all (x y : GT) : splice x.c 0 y.c = y.c := splice_all _ _ (by rw [GT.c_length, GT.c_length])
theorem GT.one (x : GT) : x.c.all SV.one = (x.pn.one && x.toA.one && x.vn.one) := by simp [GT.c, List.all_append, I16.one, Bool.and_assoc]
theorem GT.flat (x : GT) : SV.flatL x.c = (x.pn.flat && x.toA.flat && x.vn.flat) := by simp [GT.c, flatL_cons, flatL_app, I16.flat, flatL_nil, Bool.and_assoc]
theorem GT.renc (ρ : Nat → Nat) (x : GT) : SV.renL ρ x.c = GT.c ⟨x.who, SV.ren ρ x.pn, SV.ren ρ x.toA, x.key, SV.ren ρ x.vn, x.vwho⟩ := by simp [GT.c, renL_cons, renL_append, renL_flat _ _ (I16.flat _), renL_nil]
theorem GT.ent {fz : Nat → Option SB} {ρ : Nat → Nat} (who : I16) (pn : SV) (toA : SV) (key : I16) (vn : SV) (vwho : I16) (pn' : SV) (toA' : SV) (vn' : SV) : EntL fz ρ (GT.c ⟨who, pn, toA, key, vn, vwho⟩) (GT.c ⟨who, pn', toA', key, vn', vwho⟩) = (Ent fz ρ pn pn' ∧ Ent fz ρ toA toA' ∧ Ent fz ρ vn vn') := by
  simp only [GT.c, EntL_pre _ _ _ (I16.flat _), EntL_cons, EntL_nil, and_true, EntL_self _ (I16.flat _)]
end Go.SL
namespace Go.Proofs
open Go Go.SL
set_option maxRecDepth 100000
def zSU : SU := ⟨I16.zero, .v (.int .i64 0), I16.zero, I16.zero, .v (.slice none 0 0)⟩
def zDR : DR := ⟨I16.zero, .v (.int .i64 0)⟩
def zPT : PT := ⟨I16.zero, .v (.int .i64 0), .v (.bool false)⟩
def zPE : PE := ⟨I16.zero, .v (.int .i64 0), .v (.bool false), .v (.slice none 0 0)⟩
def zAK : AK := ⟨I16.zero, I16.zero, .v (.int .i64 0), I16.zero, .v (.int .i64 0), .v (.bool false), .v (.slice none 0 0)⟩
def zAD : AD := ⟨I16.zero, .v (.int .i64 0)⟩
def zPK : PK := ⟨I16.zero, I16.zero, .v (.int .i64 0), .v (.int .i64 0), .v (.int .i64 0), I16.zero, .v (.int .i64 0), I16.zero, .v (.slice none 0 0), .v (.slice none 0 0)⟩
def zCP : CP := ⟨I16.zero, .v (.int .i64 0), .v (.bool false), I16.zero, .v (.int .i64 0), I16.zero, .v (.slice none 0 0)⟩
def zGT : GT := ⟨I16.zero, .v (.int .i64 0), .v (.bool false), I16.zero, .v (.int .i64 0), I16.zero⟩
end Go.Proofs
namespace Go.Proofs
open Go Go.SL
set_option maxRecDepth 100000
end Go.Proofs
namespace Go.SL
open Go
end Go.SL
namespace Go.Proofs
open Go Go.SL
set_option maxRecDepth 100000
def bodpb11 :=
  (And.intro (And.intro (And.intro (And.intro bodpc6 @FC.set_from) (And.intro @FC.set_kind @FC.set_n)) (And.intro (And.intro @FC.set_to @FC.set_tx) (And.intro @bl151 @cells_agg))) (And.intro (And.intro (And.intro @cells_bool @cells_int) (And.intro @cells_slc @fieldPlaceOf_eq)) (And.intro (And.intro @sagg_some @sfill1_some) (And.intro @sfill_cons @sfill_nil))))
theorem b151k2 (fi fn : Int) (ti tn : Int) (n : Int) (s k : Nat) : sBuild Try.prog 151 [(0, .v (.int .i64 2)), (6, .agg [.v (.int .i64 fi), .v (.int .i64 fn)]), (7, .agg [.v (.int .i64 ti), .v (.int .i64 tn)]), (5, .v (.int .i64 n)), (13, .slc s 0 k)] = some ⟨.agg (FC.c { zF with kind := .v (.int .i64 2), fi := .v (.int .i64 fi), fn := .v (.int .i64 fn), ti := .v (.int .i64 ti), tn := .v (.int .i64 tn), n := .v (.int .i64 n), tx := .slc s 0 k }), {}, True⟩ := by
  simp (disch := simp [FC.c_length, I16.c_length, IC.c_length]) only [bodpb11, Option.map_some]
def bodpc9 :=
  (And.intro (And.intro (And.intro @AD.c_length @AK.c_length) (And.intro @CP.c_length @DR.c_length)) (And.intro (And.intro @GT.c_length @PE.c_length) (And.intro @PK.c_length (And.intro @PT.c_length @SU.c_length))))
def bodpb12 :=
  (And.intro (And.intro (And.intro (And.intro bodpc9 (And.intro bodpc0 bodpc1)) (And.intro bodpc2 (And.intro @AD.flat @AD.one))) (And.intro (And.intro @AK.flat (And.intro @AK.one @CP.flat)) (And.intro @CP.one (And.intro @DR.flat @DR.one)))) (And.intro (And.intro (And.intro @GT.flat (And.intro @GT.one @IC.c_length)) (And.intro @PE.flat (And.intro @PE.one @PK.flat))) (And.intro (And.intro @PK.one (And.intro @PT.flat @PT.one)) (And.intro (And.intro @SU.flat @SU.one) (And.intro @fh_flat @fk_flat)))))
def bodpc10 :=
  (And.intro (And.intro (And.intro (And.intro @AD.at_n (And.intro @AD.part @AD.part_a)) (And.intro (And.intro @AD.set_all @AK.at_op) (And.intro @AK.part @AK.part_a))) (And.intro (And.intro @AK.set_all (And.intro @CP.part @CP.set_all)) (And.intro (And.intro @DR.part @DR.set_all) (And.intro @FC.ent @GT.part)))) (And.intro (And.intro (And.intro @GT.set_all (And.intro @PE.part @PE.set_all)) (And.intro (And.intro @PK.at_n @PK.at_op) (And.intro @PK.at_tx @PK.part))) (And.intro (And.intro @PK.part_a (And.intro @PK.set_all @PT.part)) (And.intro (And.intro @PT.set_all @SU.part) (And.intro @SU.part_a @SU.set_all)))))
def bodpb13 :=
  (And.intro (And.intro (And.intro bodpc10 (And.intro bodpc9 bodpc3)) (And.intro bodpc0 (And.intro bodpc4 bodpc6))) (And.intro (And.intro bodpc8 (And.intro @IC.c_length @b151k2)) (And.intro @fh_flat (And.intro @fk_flat @hit210))))
def bodpb14 :=
  (And.intro (And.intro (And.intro bodpc10 bodpc9) (And.intro bodpc3 (And.intro bodpc0 bodpc4))) (And.intro (And.intro bodpc6 (And.intro bodpc8 @IC.c_length)) (And.intro @b151k2 (And.intro @fh_flat @fk_flat))))
def bodpb15 :=
  (And.intro (And.intro (And.intro bodpc10 bodpc9) (And.intro bodpc3 (And.intro bodpc0 bodpc7))) (And.intro (And.intro bodpc4 bodpc6) (And.intro bodpc8 (And.intro @fh_flat @fk_flat))))
def bodpb16 :=
  (And.intro (And.intro (And.intro bodpc10 (And.intro bodpc9 bodpc3)) (And.intro (And.intro bodpc0 bodpc7) (And.intro bodpc4 bodpc6))) (And.intro (And.intro (And.intro bodpc8 @bwk_a) (And.intro @eq_self.{1} @fh_flat)) (And.intro (And.intro @fk_flat @forall_const.{1}) (And.intro @implies_true.{0} @implies_true.{1}))))
theorem plain_k2 (fi fn : Int) (ti tn : Int) (n : Int) (tx : List UInt8) (h10 : tx.length ≤ 140737488355328) : Pure Try.prog 123 [.ifc 210 (.agg ([.v (.int .i64 fi), .v (.int .i64 fn), .v (.int .i64 ti), .v (.int .i64 tn), .v (.int .i64 n), bsl tx]))] (.agg (FC.c { zF with kind := .v (.int .i64 2), fi := .v (.int .i64 fi), fn := .v (.int .i64 fn), ti := .v (.int .i64 ti), tn := .v (.int .i64 tn), n := .v (.int .i64 n), tx := bsl tx })) := by
  refine SCall.mk (fn := Try.f123) (by kernel_rfl) rfl (Nat.le_of_ble_eq_true (by kernel_rfl)) ?_
  refine Sem.go (k := 1000) ?_
  simp -dsimp (decide := true) (disch := first | omega | simp (decide := true) only [bodpb12]) only [bodpb13, ↓brun_b, envOf, reduceIte, Nat.reduceEqDiff, Nat.reduceAdd, Nat.reduceSub, Nat.reduceMul, Nat.reduceBEq, Nat.reduceLeDiff, Nat.reduceLT, Int.reduceToNat, rho, fun v => miss214 210 v (by decide)]
  refine Sem.draw' (by kernel_rfl) (.one 0 (.one 1 (.one 2 (.one 3 (.one 4 (.one 5 (.one 6 (.one 7 (.alt 8 (.one 9 (.alt 10 .done .non)) .non))))))))) [0] (by kernel_rfl) (fun G ff hG hf => ?_)
  simp (decide := true) only [bodpb2, Nat.reduceAdd] at hG ⊢
  simp -dsimp (decide := true) (disch := first | omega | simp (decide := true) only [bodpb12]) only [bodpb14, ↓brun_b, envOf, reduceIte, Nat.reduceEqDiff, Nat.reduceAdd, Nat.reduceSub, Nat.reduceMul, Nat.reduceBEq, Nat.reduceLeDiff, Nat.reduceLT, Int.reduceToNat, rho, hG, sapp1_sl el5, Nat.le_refl, h10]
  refine hf _ (Sem.go (k := 1000) ?_)
  simp (decide := true) only [back_mk, backL_in, backL_row, backL_none, backL_nil, Nat.zero_add, Nat.reduceAdd]
  simp -dsimp (decide := true) (disch := first | omega | simp (decide := true) only [bodpb12]) only [bodpb15, ↓brun_b, envOf, reduceIte, Nat.reduceEqDiff, Nat.reduceAdd, Nat.reduceSub, Nat.reduceMul, Nat.reduceBEq, Nat.reduceLeDiff, Nat.reduceLT, Int.reduceToNat, rho]
  refine SQ.answer (rs := [.cell 2 151]) rfl rfl ?_
  simp -dsimp (decide := true) (disch := first | omega | simp (decide := true) only [bodpb12]) only [bodpb16, ↓brun_b, envOf, reduceIte, Nat.reduceEqDiff, Nat.reduceAdd, Nat.reduceSub, Nat.reduceMul, Nat.reduceBEq, Nat.reduceLeDiff, Nat.reduceLT, Int.reduceToNat, rho, frz1, ↓reduceIte]
  exact Ent_row rfl rfl (brows_length _).symm (by omega) fun i r hr => app_row _ (flatR_brows _) i r hr
end Go.Proofs
