/- Contracts of functions that the laws reach, on abstract values, and what they need: no conditions but those that each theorem states. -/
import Derived.Test.YtheodenjjaoncaaBodP
set_option linter.unusedVariables false
set_option linter.unusedSimpArgs false
set_option linter.defProp false
namespace Go.Proofs
open Go Go.SL
set_option maxRecDepth 100000
end Go.Proofs
namespace Go.Proofs
open Go Go.SL
set_option maxRecDepth 100000
def helrc0 :=
  (And.intro (And.intro (And.intro (And.intro (And.intro @AD.c_length @AD.one) (And.intro @AK.c_length @AK.one)) (And.intro (And.intro @CP.c_length @CP.one) (And.intro @DR.c_length @DR.one))) (And.intro (And.intro (And.intro @EC.one @FC.flat_eq) (And.intro @FC.one_eq @GT.c_length)) (And.intro (And.intro @GT.one @H1.one) (And.intro @I16.one @IC.c_length)))) (And.intro (And.intro (And.intro (And.intro @IC.one @PE.c_length) (And.intro @PE.one @PK.c_length)) (And.intro (And.intro @PK.one @PT.c_length) (And.intro @PT.one @SU.c_length))) (And.intro (And.intro (And.intro @SU.one @bdset_a) (And.intro @trows_length @zD.eq_1)) (And.intro (And.intro @zE.eq_1 @zF.eq_1) (And.intro @zH.eq_1 @zK.eq_1)))))
def helrc1 :=
  (And.intro (And.intro (And.intro (And.intro @AD.flat @AK.flat) (And.intro @CP.flat @DR.flat)) (And.intro (And.intro @EC.flat @GT.flat) (And.intro @H1.flat (And.intro @I16.flat @IC.flat)))) (And.intro (And.intro (And.intro @PE.flat @PK.flat) (And.intro @PT.flat (And.intro @SU.flat @brow_flat))) (And.intro (And.intro @frm_flat @idrs_flat) (And.intro @lrows_flat (And.intro @trow_flat @trows_flat)))))
def helrc2 :=
  (And.intro (And.intro @EC.c_length @FC.c_length) (And.intro @H1.c_length (And.intro @I16.c_length @trow_len)))
def helrb0 :=
  (And.intro (And.intro helrc0 helrc1) (And.intro helrc2 (And.intro @fh_flat @fk_flat)))
def helrc3 :=
  (And.intro (And.intro (And.intro (And.intro (And.intro (And.intro @EC.at_op @EC.at_up) (And.intro @EC.at_w @EC.ent)) (And.intro (And.intro @EC.part @EC.part_id) (And.intro @EC.part_mine @EC.part_peer))) (And.intro (And.intro (And.intro @EC.part_pid @EC.renc) (And.intro @EC.set_all @EC.set_mine)) (And.intro (And.intro @EC.set_op @EC.set_peer) (And.intro @EC.set_pid @EC.set_up)))) (And.intro (And.intro (And.intro (And.intro @EC.set_w @FC.part) (And.intro @FC.set_all @H1.part)) (And.intro (And.intro @H1.part_a @H1.part_from) (And.intro @H1.part_to @H1.set_all))) (And.intro (And.intro (And.intro @I16.part @Int.cast_ofNat_Int) (And.intro @List.replicate_succ.{0} @List.replicate_zero.{0})) (And.intro (And.intro @SKren_row @after_mk) (And.intro @al135 @al151))))) (And.intro (And.intro (And.intro (And.intro (And.intro @al162 @al210) (And.intro @al214 @al218)) (And.intro (And.intro @al23 @build135z) (And.intro @build151a @build151h))) (And.intro (And.intro (And.intro @build151z @build162z) (And.intro @build214 @build23z)) (And.intro (And.intro @cellAt_succ @cellAt_zero) (And.intro @mergeL_done @mergeL_own)))) (And.intro (And.intro (And.intro (And.intro @mergeL_row @mk210) (And.intro @mk214 @mk218)) (And.intro (And.intro @renL_cons @renL_flat) (And.intro @renL_nil @ren_tup))) (And.intro (And.intro (And.intro @sop_assert @sp02) (And.intro @sp05 @sp22)) (And.intro (And.intro @splice_0 @splice_c) (And.intro @splice_s @trow_cell))))))
def helrc4 :=
  (And.intro (And.intro @FC.at_kind (And.intro @FC.at_n @FC.at_op)) (And.intro (And.intro @FC.at_tx @FC.part_a) (And.intro @FC.part_from @FC.part_to)))
def helrc5 :=
  (And.intro (And.intro (And.intro (And.intro (And.intro @beq_self_eq_true.{0} @brun_a) (And.intro @cond_false.{1} @cond_true.{1})) (And.intro (And.intro @tab.a121 @tab.a135) (And.intro @tab.a2 @tab.a23))) (And.intro (And.intro (And.intro @tab.a4 @tab.a5) (And.intro @tab.a50 @tab.f135x0)) (And.intro (And.intro @tab.f135x1 @tab.f204x0) (And.intro @tab.f204x1 (And.intro @tab.f204x2 @tab.f204x3))))) (And.intro (And.intro (And.intro (And.intro @tab.f204x4 @tab.f204x5) (And.intro @tab.f204x6 @tab.s121)) (And.intro (And.intro @tab.s135 @tab.s2) (And.intro @tab.s204 (And.intro @tab.s23 @tab.s4)))) (And.intro (And.intro (And.intro @tab.s5 @tab.s50) (And.intro @tab.u121 @tab.u135)) (And.intro (And.intro @tab.u2 @tab.u23) (And.intro @tab.u4 (And.intro @tab.u5 @tab.u50))))))
def helrc6 :=
  (And.intro (And.intro (And.intro (And.intro @tab.a151 @tab.a3) (And.intro @tab.a35 (And.intro @tab.f151x0 @tab.f151x13))) (And.intro (And.intro @tab.f151x3 @tab.f151x5) (And.intro @tab.f151x6 (And.intro @tab.f151x7 @tab.f210x0)))) (And.intro (And.intro (And.intro @tab.f210x1 @tab.f210x2) (And.intro @tab.f210x3 (And.intro @tab.s151 @tab.s210))) (And.intro (And.intro @tab.s3 @tab.s35) (And.intro @tab.u210 (And.intro @tab.u3 @tab.u35)))))
def helrc7 :=
  (And.intro (And.intro (And.intro (And.intro @tab.a162 @tab.a214) (And.intro @tab.f162x0 @tab.f162x1)) (And.intro (And.intro @tab.f162x2 @tab.f162x3) (And.intro @tab.f162x4 (And.intro @tab.f214x0 @tab.f214x1)))) (And.intro (And.intro (And.intro @tab.f214x2 @tab.f218x0) (And.intro @tab.f218x1 @tab.f218x2)) (And.intro (And.intro @tab.s162 @tab.s214) (And.intro @tab.s218 (And.intro @tab.u214 @tab.u218)))))
def helrb1 :=
  (And.intro (And.intro (And.intro helrc3 helrc2) (And.intro helrc4 (And.intro helrc5 helrc6))) (And.intro (And.intro helrc7 (And.intro @fh_flat @fk_flat)) (And.intro @tab.a124 (And.intro @tab.s124 @tab.u124))))
def helrb2 :=
  (And.intro helrc1 (And.intro @fh_flat @fk_flat))
def helrb3 :=
  (And.intro (And.intro helrc5 (And.intro helrc6 helrc7)) (And.intro @tab.a124 (And.intro @tab.s124 @tab.u124)))
def helrb4 :=
  (And.intro (And.intro (And.intro helrc3 (And.intro helrc2 helrc4)) (And.intro helrc5 (And.intro helrc6 helrc7))) (And.intro (And.intro @fh_flat (And.intro @fk_flat @hit218)) (And.intro @tab.a124 (And.intro @tab.s124 @tab.u124))))
def helrb5 :=
  (And.intro (And.intro (And.intro @List.length_cons.{0} @List.length_nil.{0}) (And.intro @Nat.zero_add @roL_in)) (And.intro (And.intro @roL_nil @roL_none) (And.intro @roL_row @ro_mk)))
def helrb6 :=
  (And.intro (And.intro (And.intro (And.intro helrc3 helrc2) (And.intro helrc4 helrc5)) (And.intro (And.intro helrc6 helrc7) (And.intro @bwk_a @eq_self.{1}))) (And.intro (And.intro (And.intro @fh_flat @fk_flat) (And.intro @forall_const.{1} @implies_true.{0})) (And.intro (And.intro @implies_true.{1} @tab.a124) (And.intro @tab.s124 @tab.u124))))
theorem hear_ack_no (F : Frm) (hk : F.kind = 3) (id pid : I16) (op : Bool) (mi mn pi pn nxi nxn base got : Int) (ts : List (List UInt8))
    (hm : ((decide (F.ti = mi) && decide (F.tn = mn)) && (decide (F.fi = pi) && decide (F.fn = pn))) = false) :
    SCall Try.prog 106 [.ptr 0 0 0, .agg F.fc.c, .agg [.v (.int .i64 nxi), .v (.int .i64 nxn)]] [some (.row ⟨39, 1, false, 204, fun _ => EC.c ⟨id, .v (.bool true), .v (.bool op), .v (.int .i64 mi), .v (.int .i64 mn), .v (.int .i64 pi), .v (.int .i64 pn), pid, .ptr 1 0 0⟩⟩), some (.row ⟨3, 1, false, 197, fun _ => [.v (.int .i64 base), .slc 2 0 ts.length, .v (.int .i64 got)]⟩), some (.row ⟨1, ts.length, false, 35, trow ts⟩)]
      fun r L => r = .ret (.agg [.v (.bool false), .v (.bool false), .v (.slice none 0 0), .v (.bool false), .v (.slice none 0 0)]) ∧ L = [none, none, none] := by
  have ho := of_ack F hk
  simp only [Frm.fc] at ho ⊢
  cases c1 : (decide (F.ti = mi) && decide (F.tn = mn))
  · refine SCall.mk (fn := Try.f106) (by kernel_rfl) rfl (Nat.le_of_ble_eq_true (by kernel_rfl)) ?_
    refine Sem.go (k := 1000) ?_
    simp -dsimp (decide := true) (disch := first | omega | simp (decide := true) only [helrb0]) only [helrb1, ↓brun_b, envOf, reduceIte, Nat.reduceEqDiff, Nat.reduceAdd, Nat.reduceSub, Nat.reduceMul, Nat.reduceBEq, Nat.reduceLeDiff, Nat.reduceLT, Int.reduceToNat, rho]
    refine SemOps.callq (k := 1000) cal.f119 (ho) rfl rfl rfl rfl (by simp only [bflat_a, helrb2]) (by simp only [bflat_a, helrb2]) (by simp -dsimp (decide := true) (disch := first | omega | simp (decide := true) only [helrb0]) only [helrb3, ↓brun_b, envOf, reduceIte, Nat.reduceEqDiff, Nat.reduceAdd, Nat.reduceSub, Nat.reduceMul, Nat.reduceBEq, Nat.reduceLeDiff, Nat.reduceLT, Int.reduceToNat]) ?_
    simp -dsimp (decide := true) (disch := first | omega | simp (decide := true) only [helrb0]) only [helrb4, ↓brun_b, envOf, reduceIte, Nat.reduceEqDiff, Nat.reduceAdd, Nat.reduceSub, Nat.reduceMul, Nat.reduceBEq, Nat.reduceLeDiff, Nat.reduceLT, Int.reduceToNat, rho, fun v => miss214 218 v (by decide), fun v => miss210 218 v (by decide)]
    refine Sem.draw' (by kernel_rfl) (.one 0 (.one 1 (.one 2 (.one 3 (.one 4 (.one 5 (.one 6 (.one 7 (.one 8 (.one 9 (.one 10 (.one 11 (.one 12 (.one 13 (.one 14 (.one 15 .done)))))))))))))))) [] (by kernel_rfl) (fun G ff hG hf => ?_)
    simp (decide := true) only [helrb5, Nat.reduceAdd] at hG ⊢
    simp -dsimp (decide := true) (disch := first | omega | simp (decide := true) only [helrb0]) only [helrb1, ↓brun_b, envOf, reduceIte, Nat.reduceEqDiff, Nat.reduceAdd, Nat.reduceSub, Nat.reduceMul, Nat.reduceBEq, Nat.reduceLeDiff, Nat.reduceLT, Int.reduceToNat, rho, sBin_agg .eql 23 _ _ _ (I16.cellsEq _ _), sBin_agg .eql 135 _ _ _ (ceq135 _ _ _ _), sBin_agg .neq 23 _ _ _ (I16.cellsEq _ _), sBin_agg .neq 135 _ _ _ (ceq135 _ _ _ _), hG, c1]
    refine And.intro (flat135 _ _ _ _) ?_
    refine hf _ (Sem.go (k := 1000) ?_)
    simp (decide := true) only [back_mk, backL_in, backL_row, backL_none, backL_nil, Nat.zero_add, Nat.reduceAdd]
    simp -dsimp (decide := true) (disch := first | omega | simp (decide := true) only [helrb0]) only [helrb1, ↓brun_b, envOf, reduceIte, Nat.reduceEqDiff, Nat.reduceAdd, Nat.reduceSub, Nat.reduceMul, Nat.reduceBEq, Nat.reduceLeDiff, Nat.reduceLT, Int.reduceToNat, rho]
    refine SQ.runL (rs := [.cell 6 162]) [0, 1, 2] _ _ rfl (And.intro rfl rfl) (by decide) rfl rfl ?_ ?_
    · simp -dsimp (decide := true) (disch := first | omega | simp (decide := true) only [helrb0]) only [helrb6, ↓brun_b, envOf, reduceIte, Nat.reduceEqDiff, Nat.reduceAdd, Nat.reduceSub, Nat.reduceMul, Nat.reduceBEq, Nat.reduceLeDiff, Nat.reduceLT, Int.reduceToNat, rho, frz1, ↓reduceIte]
    · simp -dsimp (decide := true) (disch := first | omega | simp (decide := true) only [helrb0]) only [helrb6, ↓brun_b, envOf, reduceIte, Nat.reduceEqDiff, Nat.reduceAdd, Nat.reduceSub, Nat.reduceMul, Nat.reduceBEq, Nat.reduceLeDiff, Nat.reduceLT, Int.reduceToNat, rho, frz1, ↓reduceIte]
  · rw [c1, Bool.true_and] at hm
    refine SCall.mk (fn := Try.f106) (by kernel_rfl) rfl (Nat.le_of_ble_eq_true (by kernel_rfl)) ?_
    refine Sem.go (k := 1000) ?_
    simp -dsimp (decide := true) (disch := first | omega | simp (decide := true) only [helrb0]) only [helrb1, ↓brun_b, envOf, reduceIte, Nat.reduceEqDiff, Nat.reduceAdd, Nat.reduceSub, Nat.reduceMul, Nat.reduceBEq, Nat.reduceLeDiff, Nat.reduceLT, Int.reduceToNat, rho]
    refine SemOps.callq (k := 1000) cal.f119 (ho) rfl rfl rfl rfl (by simp only [bflat_a, helrb2]) (by simp only [bflat_a, helrb2]) (by simp -dsimp (decide := true) (disch := first | omega | simp (decide := true) only [helrb0]) only [helrb3, ↓brun_b, envOf, reduceIte, Nat.reduceEqDiff, Nat.reduceAdd, Nat.reduceSub, Nat.reduceMul, Nat.reduceBEq, Nat.reduceLeDiff, Nat.reduceLT, Int.reduceToNat]) ?_
    simp -dsimp (decide := true) (disch := first | omega | simp (decide := true) only [helrb0]) only [helrb4, ↓brun_b, envOf, reduceIte, Nat.reduceEqDiff, Nat.reduceAdd, Nat.reduceSub, Nat.reduceMul, Nat.reduceBEq, Nat.reduceLeDiff, Nat.reduceLT, Int.reduceToNat, rho, fun v => miss214 218 v (by decide), fun v => miss210 218 v (by decide)]
    refine Sem.draw' (by kernel_rfl) (.one 0 (.one 1 (.one 2 (.one 3 (.one 4 (.one 5 (.one 6 (.one 7 (.one 8 (.one 9 (.one 10 (.one 11 (.one 12 (.one 13 (.one 14 (.one 15 .done)))))))))))))))) [] (by kernel_rfl) (fun G ff hG hf => ?_)
    simp (decide := true) only [helrb5, Nat.reduceAdd] at hG ⊢
    simp -dsimp (decide := true) (disch := first | omega | simp (decide := true) only [helrb0]) only [helrb1, ↓brun_b, envOf, reduceIte, Nat.reduceEqDiff, Nat.reduceAdd, Nat.reduceSub, Nat.reduceMul, Nat.reduceBEq, Nat.reduceLeDiff, Nat.reduceLT, Int.reduceToNat, rho, sBin_agg .eql 23 _ _ _ (I16.cellsEq _ _), sBin_agg .eql 135 _ _ _ (ceq135 _ _ _ _), sBin_agg .neq 23 _ _ _ (I16.cellsEq _ _), sBin_agg .neq 135 _ _ _ (ceq135 _ _ _ _), hG, c1, hm]
    refine And.intro (flat135 _ _ _ _) (And.intro (flat135 _ _ _ _) ?_)
    refine hf _ (Sem.go (k := 1000) ?_)
    simp (decide := true) only [back_mk, backL_in, backL_row, backL_none, backL_nil, Nat.zero_add, Nat.reduceAdd]
    simp -dsimp (decide := true) (disch := first | omega | simp (decide := true) only [helrb0]) only [helrb1, ↓brun_b, envOf, reduceIte, Nat.reduceEqDiff, Nat.reduceAdd, Nat.reduceSub, Nat.reduceMul, Nat.reduceBEq, Nat.reduceLeDiff, Nat.reduceLT, Int.reduceToNat, rho]
    refine SQ.runL (rs := [.cell 6 162]) [0, 1, 2] _ _ rfl (And.intro rfl rfl) (by decide) rfl rfl ?_ ?_
    · simp -dsimp (decide := true) (disch := first | omega | simp (decide := true) only [helrb0]) only [helrb6, ↓brun_b, envOf, reduceIte, Nat.reduceEqDiff, Nat.reduceAdd, Nat.reduceSub, Nat.reduceMul, Nat.reduceBEq, Nat.reduceLeDiff, Nat.reduceLT, Int.reduceToNat, rho, frz1, ↓reduceIte]
    · simp -dsimp (decide := true) (disch := first | omega | simp (decide := true) only [helrb0]) only [helrb6, ↓brun_b, envOf, reduceIte, Nat.reduceEqDiff, Nat.reduceAdd, Nat.reduceSub, Nat.reduceMul, Nat.reduceBEq, Nat.reduceLeDiff, Nat.reduceLT, Int.reduceToNat, rho, frz1, ↓reduceIte]
def helrb7 :=
  (And.intro (And.intro (And.intro helrc3 (And.intro helrc2 helrc5)) (And.intro (And.intro helrc6 helrc7) (And.intro @bwk_a @eq_self.{1}))) (And.intro (And.intro (And.intro @fh_flat @fk_flat) (And.intro @forall_const.{1} @implies_true.{0})) (And.intro (And.intro @implies_true.{1} @tab.a124) (And.intro @tab.s124 @tab.u124))))
theorem hear_ack_old (F : Frm) (hk : F.kind = 3) (hn : I64 F.n) (id pid : I16) (op : Bool) (mi mn pi pn nxi nxn got : Int) (base : Nat) (ts : List (List UInt8)) (h0 : base + ts.length < 4611686018427387904)
    (hm1 : (decide (F.ti = mi) && decide (F.tn = mn)) = true) (hm2 : (decide (F.fi = pi) && decide (F.fn = pn)) = true) (hb : F.n < base ∨ (base : Int) + ts.length ≤ F.n) :
    SCall Try.prog 106 [.ptr 0 0 0, .agg F.fc.c, .agg [.v (.int .i64 nxi), .v (.int .i64 nxn)]] [some (.row ⟨39, 1, true, 204, fun _ => EC.c ⟨id, .v (.bool true), .v (.bool op), .v (.int .i64 mi), .v (.int .i64 mn), .v (.int .i64 pi), .v (.int .i64 pn), pid, .ptr 1 0 0⟩⟩), some (.row ⟨3, 1, false, 197, fun _ => [.v (.int .i64 (base : Int)), .slc 2 0 ts.length, .v (.int .i64 got)]⟩), some (.row ⟨1, ts.length, false, 35, trow ts⟩)]
      fun r L => r = .ret (.agg [.v (.bool false), .v (.bool (!op)), .v (.slice none 0 0), .v (.bool false), .v (.slice none 0 0)]) ∧ L = [some (.row ⟨39, 1, true, 204, fun _ => EC.c ⟨id, .v (.bool true), .v (.bool true), .v (.int .i64 mi), .v (.int .i64 mn), .v (.int .i64 pi), .v (.int .i64 pn), pid, .ptr 1 0 0⟩⟩), none, none] := by
  have ho := of_ack F hk
  have hc := acked_no base got F.n ts.length (trow ts) hn.1 hn.2 h0 hb
  simp only [Frm.fc] at ho ⊢
  refine SCall.mk (fn := Try.f106) (by kernel_rfl) rfl (Nat.le_of_ble_eq_true (by kernel_rfl)) ?_
  refine Sem.go (k := 1000) ?_
  simp -dsimp (decide := true) (disch := first | omega | simp (decide := true) only [helrb0]) only [helrb1, ↓brun_b, envOf, reduceIte, Nat.reduceEqDiff, Nat.reduceAdd, Nat.reduceSub, Nat.reduceMul, Nat.reduceBEq, Nat.reduceLeDiff, Nat.reduceLT, Int.reduceToNat, rho]
  refine SemOps.callq (k := 1000) cal.f119 (ho) rfl rfl rfl rfl (by simp only [bflat_a, helrb2]) (by simp only [bflat_a, helrb2]) (by simp -dsimp (decide := true) (disch := first | omega | simp (decide := true) only [helrb0]) only [helrb3, ↓brun_b, envOf, reduceIte, Nat.reduceEqDiff, Nat.reduceAdd, Nat.reduceSub, Nat.reduceMul, Nat.reduceBEq, Nat.reduceLeDiff, Nat.reduceLT, Int.reduceToNat]) ?_
  simp -dsimp (decide := true) (disch := first | omega | simp (decide := true) only [helrb0]) only [helrb4, ↓brun_b, envOf, reduceIte, Nat.reduceEqDiff, Nat.reduceAdd, Nat.reduceSub, Nat.reduceMul, Nat.reduceBEq, Nat.reduceLeDiff, Nat.reduceLT, Int.reduceToNat, rho, fun v => miss214 218 v (by decide), fun v => miss210 218 v (by decide)]
  refine Sem.draw' (by kernel_rfl) (.one 0 (.one 1 (.one 2 (.one 3 (.one 4 (.one 5 (.one 6 (.one 7 (.one 8 (.one 9 (.one 10 (.one 11 (.one 12 (.one 13 (.one 14 (.one 15 .done)))))))))))))))) [] (by kernel_rfl) (fun G ff hG hf => ?_)
  simp (decide := true) only [helrb5, Nat.reduceAdd] at hG ⊢
  simp -dsimp (decide := true) (disch := first | omega | simp (decide := true) only [helrb0]) only [helrb1, ↓brun_b, envOf, reduceIte, Nat.reduceEqDiff, Nat.reduceAdd, Nat.reduceSub, Nat.reduceMul, Nat.reduceBEq, Nat.reduceLeDiff, Nat.reduceLT, Int.reduceToNat, rho, sBin_agg .eql 23 _ _ _ (I16.cellsEq _ _), sBin_agg .eql 135 _ _ _ (ceq135 _ _ _ _), sBin_agg .neq 23 _ _ _ (I16.cellsEq _ _), sBin_agg .neq 135 _ _ _ (ceq135 _ _ _ _), hG, hm1, hm2]
  refine And.intro (flat135 _ _ _ _) (And.intro (flat135 _ _ _ _) ?_)
  refine hf _ (Sem.go (k := 1000) ?_)
  simp (decide := true) only [back_mk, backL_in, backL_row, backL_none, backL_nil, Nat.zero_add, Nat.reduceAdd]
  simp -dsimp (decide := true) (disch := first | omega | simp (decide := true) only [helrb0]) only [helrb1, ↓brun_b, envOf, reduceIte, Nat.reduceEqDiff, Nat.reduceAdd, Nat.reduceSub, Nat.reduceMul, Nat.reduceBEq, Nat.reduceLeDiff, Nat.reduceLT, Int.reduceToNat, rho]
  refine Sem.draw' (by kernel_rfl) (.one 0 (.one 1 (.one 2 (.one 3 (.one 4 (.one 5 (.alt 6 .done .non))))))) [] (by kernel_rfl) (fun G ff hG hf => ?_)
  simp (decide := true) only [helrb5, Nat.reduceAdd] at hG ⊢
  simp -dsimp (decide := true) (disch := first | omega | simp (decide := true) only [helrb0]) only [helrb1, ↓brun_b, envOf, reduceIte, Nat.reduceEqDiff, Nat.reduceAdd, Nat.reduceSub, Nat.reduceMul, Nat.reduceBEq, Nat.reduceLeDiff, Nat.reduceLT, Int.reduceToNat, rho, hG]
  refine OpSem.callw [1, 2] cal.f52 (hc) rfl rfl (by simp -dsimp (decide := true) (disch := first | omega | simp (decide := true) only [helrb0]) only [helrb7, ↓brun_b, envOf, reduceIte, Nat.reduceEqDiff, Nat.reduceAdd, Nat.reduceSub, Nat.reduceMul, Nat.reduceBEq, Nat.reduceLeDiff, Nat.reduceLT, Int.reduceToNat, rho, frz1, ↓reduceIte]) rfl (by simp -dsimp (decide := true) (disch := first | omega | simp (decide := true) only [helrb0]) only [helrb7, ↓brun_b, envOf, reduceIte, Nat.reduceEqDiff, Nat.reduceAdd, Nat.reduceSub, Nat.reduceMul, Nat.reduceBEq, Nat.reduceLeDiff, Nat.reduceLT, Int.reduceToNat, rho, frz1, ↓reduceIte]) (by simp -dsimp (decide := true) (disch := first | omega | simp (decide := true) only [helrb0]) only [helrb3, ↓brun_b, envOf, reduceIte, Nat.reduceEqDiff, Nat.reduceAdd, Nat.reduceSub, Nat.reduceMul, Nat.reduceBEq, Nat.reduceLeDiff, Nat.reduceLT, Int.reduceToNat]) ?_
  simp -dsimp (decide := true) (disch := first | omega | simp (decide := true) only [helrb0]) only [helrb1, ↓brun_b, envOf, reduceIte, Nat.reduceEqDiff, Nat.reduceAdd, Nat.reduceSub, Nat.reduceMul, Nat.reduceBEq, Nat.reduceLeDiff, Nat.reduceLT, Int.reduceToNat, rho, hG]
  refine hf _ (Sem.go (k := 1000) ?_)
  simp (decide := true) only [back_mk, backL_in, backL_row, backL_none, backL_nil, Nat.zero_add, Nat.reduceAdd]
  simp -dsimp (decide := true) (disch := first | omega | simp (decide := true) only [helrb0]) only [helrb1, ↓brun_b, envOf, reduceIte, Nat.reduceEqDiff, Nat.reduceAdd, Nat.reduceSub, Nat.reduceMul, Nat.reduceBEq, Nat.reduceLeDiff, Nat.reduceLT, Int.reduceToNat, rho]
  refine SQ.runL (rs := [.cell 6 162]) [0, 1, 2] _ _ rfl (And.intro rfl rfl) (by decide) rfl rfl ?_ ?_
  · simp -dsimp (decide := true) (disch := first | omega | simp (decide := true) only [helrb0]) only [helrb6, ↓brun_b, envOf, reduceIte, Nat.reduceEqDiff, Nat.reduceAdd, Nat.reduceSub, Nat.reduceMul, Nat.reduceBEq, Nat.reduceLeDiff, Nat.reduceLT, Int.reduceToNat, rho, frz1, ↓reduceIte]
  · simp -dsimp (decide := true) (disch := first | omega | simp (decide := true) only [helrb0]) only [helrb6, ↓brun_b, envOf, reduceIte, Nat.reduceEqDiff, Nat.reduceAdd, Nat.reduceSub, Nat.reduceMul, Nat.reduceBEq, Nat.reduceLeDiff, Nat.reduceLT, Int.reduceToNat, rho, frz1, ↓reduceIte]
theorem hear_ack_new (F : Frm) (hk : F.kind = 3) (id pid : I16) (op : Bool) (mi mn pi pn nxi nxn got : Int) (base j : Nat) (ts : List (List UInt8)) (h0 : base + ts.length < 4611686018427387904) (h1 : ts.length * 24 ≤ 140737488355328) (hj : j < ts.length)
    (hm1 : (decide (F.ti = mi) && decide (F.tn = mn)) = true) (hm2 : (decide (F.fi = pi) && decide (F.fn = pn)) = true) (hb : F.n = ((base + j : Nat) : Int)) :
    SCall Try.prog 106 [.ptr 0 0 0, .agg F.fc.c, .agg [.v (.int .i64 nxi), .v (.int .i64 nxn)]] [some (.row ⟨39, 1, true, 204, fun _ => EC.c ⟨id, .v (.bool true), .v (.bool op), .v (.int .i64 mi), .v (.int .i64 mn), .v (.int .i64 pi), .v (.int .i64 pn), pid, .ptr 1 0 0⟩⟩), some (.row ⟨3, 1, true, 197, fun _ => [.v (.int .i64 (base : Int)), .slc 2 0 ts.length, .v (.int .i64 got)]⟩), some (.row ⟨1, ts.length, true, 35, trow ts⟩)]
      fun r L => r = .ret (.agg [.v (.bool false), .v (.bool (!op)), .v (.slice none 0 0), .v (.bool false), .v (.slice none 0 0)]) ∧ L = [some (.row ⟨39, 1, true, 204, fun _ => EC.c ⟨id, .v (.bool true), .v (.bool true), .v (.int .i64 mi), .v (.int .i64 mn), .v (.int .i64 pi), .v (.int .i64 pn), pid, .ptr 1 0 0⟩⟩), some (.row ⟨3, 1, true, 197, fun _ => [.v (.int .i64 ((base + (j + 1) : Nat) : Int)), .slc 3 0 (ts.length - (j + 1)), .v (.int .i64 got)]⟩), none, some (.row ⟨1, ts.length - (j + 1), true, 35, trow (ts.drop (j + 1))⟩)] := by
  have ho := of_ack F hk
  have hc := acked_yes base got ts j h0 h1 hj
  rw [← hb] at hc
  simp only [Frm.fc] at ho ⊢
  refine SCall.mk (fn := Try.f106) (by kernel_rfl) rfl (Nat.le_of_ble_eq_true (by kernel_rfl)) ?_
  refine Sem.go (k := 1000) ?_
  simp -dsimp (decide := true) (disch := first | omega | simp (decide := true) only [helrb0]) only [helrb1, ↓brun_b, envOf, reduceIte, Nat.reduceEqDiff, Nat.reduceAdd, Nat.reduceSub, Nat.reduceMul, Nat.reduceBEq, Nat.reduceLeDiff, Nat.reduceLT, Int.reduceToNat, rho]
  refine SemOps.callq (k := 1000) cal.f119 (ho) rfl rfl rfl rfl (by simp only [bflat_a, helrb2]) (by simp only [bflat_a, helrb2]) (by simp -dsimp (decide := true) (disch := first | omega | simp (decide := true) only [helrb0]) only [helrb3, ↓brun_b, envOf, reduceIte, Nat.reduceEqDiff, Nat.reduceAdd, Nat.reduceSub, Nat.reduceMul, Nat.reduceBEq, Nat.reduceLeDiff, Nat.reduceLT, Int.reduceToNat]) ?_
  simp -dsimp (decide := true) (disch := first | omega | simp (decide := true) only [helrb0]) only [helrb4, ↓brun_b, envOf, reduceIte, Nat.reduceEqDiff, Nat.reduceAdd, Nat.reduceSub, Nat.reduceMul, Nat.reduceBEq, Nat.reduceLeDiff, Nat.reduceLT, Int.reduceToNat, rho, fun v => miss214 218 v (by decide), fun v => miss210 218 v (by decide)]
  refine Sem.draw' (by kernel_rfl) (.one 0 (.one 1 (.one 2 (.one 3 (.one 4 (.one 5 (.one 6 (.one 7 (.one 8 (.one 9 (.one 10 (.one 11 (.one 12 (.one 13 (.one 14 (.one 15 .done)))))))))))))))) [] (by kernel_rfl) (fun G ff hG hf => ?_)
  simp (decide := true) only [helrb5, Nat.reduceAdd] at hG ⊢
  simp -dsimp (decide := true) (disch := first | omega | simp (decide := true) only [helrb0]) only [helrb1, ↓brun_b, envOf, reduceIte, Nat.reduceEqDiff, Nat.reduceAdd, Nat.reduceSub, Nat.reduceMul, Nat.reduceBEq, Nat.reduceLeDiff, Nat.reduceLT, Int.reduceToNat, rho, sBin_agg .eql 23 _ _ _ (I16.cellsEq _ _), sBin_agg .eql 135 _ _ _ (ceq135 _ _ _ _), sBin_agg .neq 23 _ _ _ (I16.cellsEq _ _), sBin_agg .neq 135 _ _ _ (ceq135 _ _ _ _), hG, hm1, hm2]
  refine And.intro (flat135 _ _ _ _) (And.intro (flat135 _ _ _ _) ?_)
  refine hf _ (Sem.go (k := 1000) ?_)
  simp (decide := true) only [back_mk, backL_in, backL_row, backL_none, backL_nil, Nat.zero_add, Nat.reduceAdd]
  simp -dsimp (decide := true) (disch := first | omega | simp (decide := true) only [helrb0]) only [helrb1, ↓brun_b, envOf, reduceIte, Nat.reduceEqDiff, Nat.reduceAdd, Nat.reduceSub, Nat.reduceMul, Nat.reduceBEq, Nat.reduceLeDiff, Nat.reduceLT, Int.reduceToNat, rho]
  refine Sem.draw' (by kernel_rfl) (.one 0 (.one 1 (.one 2 (.one 3 (.one 4 (.one 5 (.alt 6 .done .non))))))) [1, 2] (by kernel_rfl) (fun G ff hG hf => ?_)
  simp (decide := true) only [helrb5, Nat.reduceAdd] at hG ⊢
  simp -dsimp (decide := true) (disch := first | omega | simp (decide := true) only [helrb0]) only [helrb1, ↓brun_b, envOf, reduceIte, Nat.reduceEqDiff, Nat.reduceAdd, Nat.reduceSub, Nat.reduceMul, Nat.reduceBEq, Nat.reduceLeDiff, Nat.reduceLT, Int.reduceToNat, rho, hG]
  refine OpSem.callw [1, 2] cal.f52 (hc) rfl rfl (by simp -dsimp (decide := true) (disch := first | omega | simp (decide := true) only [helrb0]) only [helrb7, ↓brun_b, envOf, reduceIte, Nat.reduceEqDiff, Nat.reduceAdd, Nat.reduceSub, Nat.reduceMul, Nat.reduceBEq, Nat.reduceLeDiff, Nat.reduceLT, Int.reduceToNat, rho, frz1, ↓reduceIte]) rfl (by simp -dsimp (decide := true) (disch := first | omega | simp (decide := true) only [helrb0]) only [helrb7, ↓brun_b, envOf, reduceIte, Nat.reduceEqDiff, Nat.reduceAdd, Nat.reduceSub, Nat.reduceMul, Nat.reduceBEq, Nat.reduceLeDiff, Nat.reduceLT, Int.reduceToNat, rho, frz1, ↓reduceIte]) (by simp -dsimp (decide := true) (disch := first | omega | simp (decide := true) only [helrb0]) only [helrb3, ↓brun_b, envOf, reduceIte, Nat.reduceEqDiff, Nat.reduceAdd, Nat.reduceSub, Nat.reduceMul, Nat.reduceBEq, Nat.reduceLeDiff, Nat.reduceLT, Int.reduceToNat]) ?_
  simp -dsimp (decide := true) (disch := first | omega | simp (decide := true) only [helrb0]) only [helrb1, ↓brun_b, envOf, reduceIte, Nat.reduceEqDiff, Nat.reduceAdd, Nat.reduceSub, Nat.reduceMul, Nat.reduceBEq, Nat.reduceLeDiff, Nat.reduceLT, Int.reduceToNat, rho, hG]
  refine hf _ (Sem.go (k := 1000) ?_)
  simp (decide := true) only [back_mk, backL_in, backL_row, backL_none, backL_nil, Nat.zero_add, Nat.reduceAdd]
  simp -dsimp (decide := true) (disch := first | omega | simp (decide := true) only [helrb0]) only [helrb1, ↓brun_b, envOf, reduceIte, Nat.reduceEqDiff, Nat.reduceAdd, Nat.reduceSub, Nat.reduceMul, Nat.reduceBEq, Nat.reduceLeDiff, Nat.reduceLT, Int.reduceToNat, rho]
  refine SQ.runL (rs := [.cell 6 162]) [0, 1, 2, 9] _ _ rfl (And.intro rfl rfl) (by decide) rfl rfl ?_ ?_
  · simp -dsimp (decide := true) (disch := first | omega | simp (decide := true) only [helrb0]) only [helrb6, ↓brun_b, envOf, reduceIte, Nat.reduceEqDiff, Nat.reduceAdd, Nat.reduceSub, Nat.reduceMul, Nat.reduceBEq, Nat.reduceLeDiff, Nat.reduceLT, Int.reduceToNat, rho, frz1, ↓reduceIte]
  · simp -dsimp (decide := true) (disch := first | omega | simp (decide := true) only [helrb0]) only [helrb6, ↓brun_b, envOf, reduceIte, Nat.reduceEqDiff, Nat.reduceAdd, Nat.reduceSub, Nat.reduceMul, Nat.reduceBEq, Nat.reduceLeDiff, Nat.reduceLT, Int.reduceToNat, rho, frz1, ↓reduceIte]
end Go.Proofs
namespace Go.Proofs
open Go Go.SL
set_option maxRecDepth 100000
def helrb8 :=
  (And.intro (And.intro (And.intro helrc3 (And.intro helrc2 helrc4)) (And.intro helrc5 (And.intro helrc6 helrc7))) (And.intro (And.intro @fh_flat (And.intro @fk_flat @hit210)) (And.intro @tab.a124 (And.intro @tab.s124 @tab.u124))))
theorem hear_data_no (F : Frm) (hk : F.kind = 2) (hl : F.tx.length ≤ 140737488355328) (id pid : I16) (op : Bool) (mi mn pi pn nxi nxn base got : Int) (ts : List (List UInt8))
    (hm : ((decide (F.ti = mi) && decide (F.tn = mn)) && (decide (F.fi = pi) && decide (F.fn = pn))) = false) :
    SCall Try.prog 106 [.ptr 0 0 0, .agg F.fc.c, .agg [.v (.int .i64 nxi), .v (.int .i64 nxn)]] [some (.row ⟨39, 1, false, 204, fun _ => EC.c ⟨id, .v (.bool true), .v (.bool op), .v (.int .i64 mi), .v (.int .i64 mn), .v (.int .i64 pi), .v (.int .i64 pn), pid, .ptr 1 0 0⟩⟩), some (.row ⟨3, 1, false, 197, fun _ => [.v (.int .i64 base), .slc 2 0 ts.length, .v (.int .i64 got)]⟩), some (.row ⟨1, ts.length, false, 35, trow ts⟩)]
      fun r L => r = .ret (.agg [.v (.bool false), .v (.bool false), .v (.slice none 0 0), .v (.bool false), .v (.slice none 0 0)]) ∧ L = [none, none, none] := by
  have ho := of_data F hk hl
  simp only [Frm.fc] at ho ⊢
  cases c1 : (decide (F.ti = mi) && decide (F.tn = mn))
  · refine SCall.mk (fn := Try.f106) (by kernel_rfl) rfl (Nat.le_of_ble_eq_true (by kernel_rfl)) ?_
    refine Sem.go (k := 1000) ?_
    simp -dsimp (decide := true) (disch := first | omega | simp (decide := true) only [helrb0]) only [helrb1, ↓brun_b, envOf, reduceIte, Nat.reduceEqDiff, Nat.reduceAdd, Nat.reduceSub, Nat.reduceMul, Nat.reduceBEq, Nat.reduceLeDiff, Nat.reduceLT, Int.reduceToNat, rho]
    refine SemOps.callq (k := 1000) cal.f119 (ho) rfl rfl rfl rfl (by simp only [bflat_a, helrb2]) (by simp only [bflat_a, helrb2]) (by simp -dsimp (decide := true) (disch := first | omega | simp (decide := true) only [helrb0]) only [helrb3, ↓brun_b, envOf, reduceIte, Nat.reduceEqDiff, Nat.reduceAdd, Nat.reduceSub, Nat.reduceMul, Nat.reduceBEq, Nat.reduceLeDiff, Nat.reduceLT, Int.reduceToNat]) ?_
    simp -dsimp (decide := true) (disch := first | omega | simp (decide := true) only [helrb0]) only [helrb8, ↓brun_b, envOf, reduceIte, Nat.reduceEqDiff, Nat.reduceAdd, Nat.reduceSub, Nat.reduceMul, Nat.reduceBEq, Nat.reduceLeDiff, Nat.reduceLT, Int.reduceToNat, rho, fun v => miss214 210 v (by decide)]
    refine Sem.draw' (by kernel_rfl) (.one 0 (.one 1 (.one 2 (.one 3 (.one 4 (.one 5 (.one 6 (.one 7 (.one 8 (.one 9 (.one 10 (.one 11 (.one 12 (.one 13 (.one 14 (.one 15 .done)))))))))))))))) [] (by kernel_rfl) (fun G ff hG hf => ?_)
    simp (decide := true) only [helrb5, Nat.reduceAdd] at hG ⊢
    simp -dsimp (decide := true) (disch := first | omega | simp (decide := true) only [helrb0]) only [helrb1, ↓brun_b, envOf, reduceIte, Nat.reduceEqDiff, Nat.reduceAdd, Nat.reduceSub, Nat.reduceMul, Nat.reduceBEq, Nat.reduceLeDiff, Nat.reduceLT, Int.reduceToNat, rho, sBin_agg .eql 23 _ _ _ (I16.cellsEq _ _), sBin_agg .eql 135 _ _ _ (ceq135 _ _ _ _), sBin_agg .neq 23 _ _ _ (I16.cellsEq _ _), sBin_agg .neq 135 _ _ _ (ceq135 _ _ _ _), hG, c1]
    refine And.intro (flat135 _ _ _ _) ?_
    refine hf _ (Sem.go (k := 1000) ?_)
    simp (decide := true) only [back_mk, backL_in, backL_row, backL_none, backL_nil, Nat.zero_add, Nat.reduceAdd]
    simp -dsimp (decide := true) (disch := first | omega | simp (decide := true) only [helrb0]) only [helrb1, ↓brun_b, envOf, reduceIte, Nat.reduceEqDiff, Nat.reduceAdd, Nat.reduceSub, Nat.reduceMul, Nat.reduceBEq, Nat.reduceLeDiff, Nat.reduceLT, Int.reduceToNat, rho]
    refine SQ.runL (rs := [.cell 6 162]) [0, 1, 2] _ _ rfl (And.intro rfl rfl) (by decide) rfl rfl ?_ ?_
    · simp -dsimp (decide := true) (disch := first | omega | simp (decide := true) only [helrb0]) only [helrb6, ↓brun_b, envOf, reduceIte, Nat.reduceEqDiff, Nat.reduceAdd, Nat.reduceSub, Nat.reduceMul, Nat.reduceBEq, Nat.reduceLeDiff, Nat.reduceLT, Int.reduceToNat, rho, frz1, ↓reduceIte]
    · simp -dsimp (decide := true) (disch := first | omega | simp (decide := true) only [helrb0]) only [helrb6, ↓brun_b, envOf, reduceIte, Nat.reduceEqDiff, Nat.reduceAdd, Nat.reduceSub, Nat.reduceMul, Nat.reduceBEq, Nat.reduceLeDiff, Nat.reduceLT, Int.reduceToNat, rho, frz1, ↓reduceIte]
  · rw [c1, Bool.true_and] at hm
    refine SCall.mk (fn := Try.f106) (by kernel_rfl) rfl (Nat.le_of_ble_eq_true (by kernel_rfl)) ?_
    refine Sem.go (k := 1000) ?_
    simp -dsimp (decide := true) (disch := first | omega | simp (decide := true) only [helrb0]) only [helrb1, ↓brun_b, envOf, reduceIte, Nat.reduceEqDiff, Nat.reduceAdd, Nat.reduceSub, Nat.reduceMul, Nat.reduceBEq, Nat.reduceLeDiff, Nat.reduceLT, Int.reduceToNat, rho]
    refine SemOps.callq (k := 1000) cal.f119 (ho) rfl rfl rfl rfl (by simp only [bflat_a, helrb2]) (by simp only [bflat_a, helrb2]) (by simp -dsimp (decide := true) (disch := first | omega | simp (decide := true) only [helrb0]) only [helrb3, ↓brun_b, envOf, reduceIte, Nat.reduceEqDiff, Nat.reduceAdd, Nat.reduceSub, Nat.reduceMul, Nat.reduceBEq, Nat.reduceLeDiff, Nat.reduceLT, Int.reduceToNat]) ?_
    simp -dsimp (decide := true) (disch := first | omega | simp (decide := true) only [helrb0]) only [helrb8, ↓brun_b, envOf, reduceIte, Nat.reduceEqDiff, Nat.reduceAdd, Nat.reduceSub, Nat.reduceMul, Nat.reduceBEq, Nat.reduceLeDiff, Nat.reduceLT, Int.reduceToNat, rho, fun v => miss214 210 v (by decide)]
    refine Sem.draw' (by kernel_rfl) (.one 0 (.one 1 (.one 2 (.one 3 (.one 4 (.one 5 (.one 6 (.one 7 (.one 8 (.one 9 (.one 10 (.one 11 (.one 12 (.one 13 (.one 14 (.one 15 .done)))))))))))))))) [] (by kernel_rfl) (fun G ff hG hf => ?_)
    simp (decide := true) only [helrb5, Nat.reduceAdd] at hG ⊢
    simp -dsimp (decide := true) (disch := first | omega | simp (decide := true) only [helrb0]) only [helrb1, ↓brun_b, envOf, reduceIte, Nat.reduceEqDiff, Nat.reduceAdd, Nat.reduceSub, Nat.reduceMul, Nat.reduceBEq, Nat.reduceLeDiff, Nat.reduceLT, Int.reduceToNat, rho, sBin_agg .eql 23 _ _ _ (I16.cellsEq _ _), sBin_agg .eql 135 _ _ _ (ceq135 _ _ _ _), sBin_agg .neq 23 _ _ _ (I16.cellsEq _ _), sBin_agg .neq 135 _ _ _ (ceq135 _ _ _ _), hG, c1, hm]
    refine And.intro (flat135 _ _ _ _) (And.intro (flat135 _ _ _ _) ?_)
    refine hf _ (Sem.go (k := 1000) ?_)
    simp (decide := true) only [back_mk, backL_in, backL_row, backL_none, backL_nil, Nat.zero_add, Nat.reduceAdd]
    simp -dsimp (decide := true) (disch := first | omega | simp (decide := true) only [helrb0]) only [helrb1, ↓brun_b, envOf, reduceIte, Nat.reduceEqDiff, Nat.reduceAdd, Nat.reduceSub, Nat.reduceMul, Nat.reduceBEq, Nat.reduceLeDiff, Nat.reduceLT, Int.reduceToNat, rho]
    refine SQ.runL (rs := [.cell 6 162]) [0, 1, 2] _ _ rfl (And.intro rfl rfl) (by decide) rfl rfl ?_ ?_
    · simp -dsimp (decide := true) (disch := first | omega | simp (decide := true) only [helrb0]) only [helrb6, ↓brun_b, envOf, reduceIte, Nat.reduceEqDiff, Nat.reduceAdd, Nat.reduceSub, Nat.reduceMul, Nat.reduceBEq, Nat.reduceLeDiff, Nat.reduceLT, Int.reduceToNat, rho, frz1, ↓reduceIte]
    · simp -dsimp (decide := true) (disch := first | omega | simp (decide := true) only [helrb0]) only [helrb6, ↓brun_b, envOf, reduceIte, Nat.reduceEqDiff, Nat.reduceAdd, Nat.reduceSub, Nat.reduceMul, Nat.reduceBEq, Nat.reduceLeDiff, Nat.reduceLT, Int.reduceToNat, rho, frz1, ↓reduceIte]
end Go.Proofs
namespace Go.Proofs
open Go Go.SL
set_option maxRecDepth 100000
theorem bl210b (fi fn ti tn n : Int) (rows : List (List SV)) : sBuild Try.prog 210 [(0, .agg [.v (.int .i64 fi), .v (.int .i64 fn)]), (1, .agg [.v (.int .i64 ti), .v (.int .i64 tn)]), (2, .v (.int .i64 n)), (3, .rsl 1 rows)] = some ⟨.agg [.v (.int .i64 fi), .v (.int .i64 fn), .v (.int .i64 ti), .v (.int .i64 tn), .v (.int .i64 n), .rsl 1 rows], {}, True⟩ := by
  rw [sBuild_eq, tab.z210, tab.l210]; rfl
theorem fd_flat (mi mn pi pn n : Int) (tx : List UInt8) : SV.flatL (FC.c { zF with kind := .v (.int .i64 2), fi := .v (.int .i64 mi), fn := .v (.int .i64 mn), ti := .v (.int .i64 pi), tn := .v (.int .i64 pn), n := .v (.int .i64 n), tx := bsl tx }) = true := by simp [FC.flat_eq, zF, flat_v, flat_rsl, flatR_brows]
def helrb9 :=
  (And.intro (And.intro helrc0 (And.intro helrc1 helrc2)) (And.intro @fd_flat (And.intro @fh_flat @fk_flat)))
def helrb10 :=
  (And.intro (And.intro helrc3 (And.intro helrc2 helrc5)) (And.intro (And.intro helrc6 @brows_length) (And.intro @fh_flat @fk_flat)))
def helrb11 :=
  (And.intro (And.intro (And.intro helrc3 helrc2) (And.intro helrc5 (And.intro helrc6 @bwk_a))) (And.intro (And.intro @eq_self.{1} (And.intro @fh_flat @fk_flat)) (And.intro @forall_const.{1} (And.intro @implies_true.{0} @implies_true.{1}))))
theorem sendLong_calls (id pid : I16) (up : Bool) (mi mn pi pn base got : Int) (ts : List (List UInt8)) (t : List UInt8) (ht : 4096 < t.length) :
    SCall Try.prog 102 [.ptr 0 0 0, bsl t] [some (.row ⟨39, 1, false, 204, fun _ => EC.c ⟨id, .v (.bool up), .v (.bool true), .v (.int .i64 mi), .v (.int .i64 mn), .v (.int .i64 pi), .v (.int .i64 pn), pid, .ptr 1 0 0⟩⟩), some (.row ⟨3, 1, false, 197, fun _ => [.v (.int .i64 base), .slc 2 0 ts.length, .v (.int .i64 got)]⟩), some (.row ⟨1, ts.length, false, 35, trow ts⟩)]
      fun r L => r = .ret (.tup [.agg zF.c, .v (.int .i64 4)]) ∧ L = [none, none, none] := by
  have h : decide ((t.length : Int) > 4096) = true := decide_eq_true (by omega)
  have h' : decide ((4096 : Int) < (t.length : Int)) = true := decide_eq_true (by omega)
  refine SCall.mk (fn := Try.f102) (by kernel_rfl) rfl (Nat.le_of_ble_eq_true (by kernel_rfl)) ?_
  refine Sem.go (k := 1000) ?_
  simp -dsimp (decide := true) (disch := first | omega | simp (decide := true) only [helrb9]) only [helrb10, ↓brun_b, envOf, reduceIte, Nat.reduceEqDiff, Nat.reduceAdd, Nat.reduceSub, Nat.reduceMul, Nat.reduceBEq, Nat.reduceLeDiff, Nat.reduceLT, Int.reduceToNat, rho, h, h']
  refine SQ.runL (rs := [.cell 4 151, .tmp 5]) [0, 1, 2] _ _ rfl (And.intro rfl rfl) (by decide) rfl rfl ?_ ?_
  · simp -dsimp (decide := true) (disch := first | omega | simp (decide := true) only [helrb9]) only [helrb11, ↓brun_b, envOf, reduceIte, Nat.reduceEqDiff, Nat.reduceAdd, Nat.reduceSub, Nat.reduceMul, Nat.reduceBEq, Nat.reduceLeDiff, Nat.reduceLT, Int.reduceToNat, rho, frz1, ↓reduceIte]
  · simp -dsimp (decide := true) (disch := first | omega | simp (decide := true) only [helrb9]) only [helrb11, ↓brun_b, envOf, reduceIte, Nat.reduceEqDiff, Nat.reduceAdd, Nat.reduceSub, Nat.reduceMul, Nat.reduceBEq, Nat.reduceLeDiff, Nat.reduceLT, Int.reduceToNat, rho, frz1, ↓reduceIte]
def helrb12 :=
  (And.intro helrc5 helrc6)
def helrb13 :=
  (And.intro (And.intro helrc3 (And.intro helrc2 helrc5)) (And.intro helrc6 (And.intro @fh_flat @fk_flat)))
def helrb14 :=
  (And.intro (And.intro helrc3 (And.intro helrc2 helrc5)) (And.intro (And.intro helrc6 @bl210b) (And.intro @fh_flat @fk_flat)))
def helrb15 :=
  (And.intro (And.intro helrc1 @fd_flat) (And.intro @fh_flat @fk_flat))
def helrb16 :=
  (And.intro (And.intro helrc3 (And.intro helrc2 helrc4)) (And.intro (And.intro helrc5 helrc6) (And.intro @fh_flat @fk_flat)))
def helrb17 :=
  (And.intro (And.intro (And.intro helrc3 (And.intro helrc2 helrc4)) (And.intro helrc5 (And.intro helrc6 @bwk_a))) (And.intro (And.intro @eq_self.{1} (And.intro @fh_flat @fk_flat)) (And.intro @forall_const.{1} (And.intro @implies_true.{0} @implies_true.{1}))))
theorem sendOpen_calls (id pid : I16) (up : Bool) (mi mn pi pn got : Int) (base : Nat) (ts : List (List UInt8)) (tx : List UInt8) (ht : tx.length ≤ 4096) (h0 : base + ts.length < 4611686018427387904) (h1 : (ts.length + 1) * 24 ≤ 140737488355328) (n : Int) (hn : n = ((base + ts.length : Nat) : Int)) :
    SCall Try.prog 102 [.ptr 0 0 0, bsl tx] [some (.row ⟨39, 1, false, 204, fun _ => EC.c ⟨id, .v (.bool up), .v (.bool true), .v (.int .i64 mi), .v (.int .i64 mn), .v (.int .i64 pi), .v (.int .i64 pn), pid, .ptr 1 0 0⟩⟩), some (.row ⟨3, 1, true, 197, fun _ => [.v (.int .i64 (base : Int)), .slc 2 0 ts.length, .v (.int .i64 got)]⟩), some (.row ⟨1, ts.length, true, 35, trow ts⟩)]
      fun r L => r = .ret (.tup [.agg (FC.c { zF with kind := .v (.int .i64 2), fi := .v (.int .i64 mi), fn := .v (.int .i64 mn), ti := .v (.int .i64 pi), tn := .v (.int .i64 pn), n := .v (.int .i64 n), tx := bsl tx }), .v (.int .i64 0)]) ∧ L = [none, some (.row ⟨3, 1, true, 197, fun _ => [.v (.int .i64 (base : Int)), .slc 3 0 (ts.length + 1), .v (.int .i64 got)]⟩), none, some (.row ⟨1, ts.length + 1, true, 35, trow (ts ++ [tx])⟩)] := by
  have h : decide ((tx.length : Int) > 4096) = false := decide_eq_false (by omega)
  have h' : decide ((4096 : Int) < (tx.length : Int)) = false := decide_eq_false (by omega)
  have hc := send_calls base got ts tx h0 h1 (by omega)
  rw [← hn] at hc
  refine SCall.mk (fn := Try.f102) (by kernel_rfl) rfl (Nat.le_of_ble_eq_true (by kernel_rfl)) ?_
  refine Sem.go (k := 1000) ?_
  simp -dsimp (decide := true) (disch := first | omega | simp (decide := true) only [helrb9]) only [helrb10, ↓brun_b, envOf, reduceIte, Nat.reduceEqDiff, Nat.reduceAdd, Nat.reduceSub, Nat.reduceMul, Nat.reduceBEq, Nat.reduceLeDiff, Nat.reduceLT, Int.reduceToNat, rho, h, h']
  refine SemOps.callw [1, 2] cal.f50 (hc) rfl rfl rfl (by simp -dsimp (decide := true) (disch := first | omega | simp (decide := true) only [helrb9]) only [helrb11, ↓brun_b, envOf, reduceIte, Nat.reduceEqDiff, Nat.reduceAdd, Nat.reduceSub, Nat.reduceMul, Nat.reduceBEq, Nat.reduceLeDiff, Nat.reduceLT, Int.reduceToNat, rho, frz1, ↓reduceIte]) rfl (by simp -dsimp (decide := true) (disch := first | omega | simp (decide := true) only [helrb9]) only [helrb11, ↓brun_b, envOf, reduceIte, Nat.reduceEqDiff, Nat.reduceAdd, Nat.reduceSub, Nat.reduceMul, Nat.reduceBEq, Nat.reduceLeDiff, Nat.reduceLT, Int.reduceToNat, rho, frz1, ↓reduceIte]) (by simp -dsimp (decide := true) (disch := first | omega | simp (decide := true) only [helrb9]) only [helrb12, ↓brun_b, envOf, reduceIte, Nat.reduceEqDiff, Nat.reduceAdd, Nat.reduceSub, Nat.reduceMul, Nat.reduceBEq, Nat.reduceLeDiff, Nat.reduceLT, Int.reduceToNat]) ?_
  refine SemOps.go (k := 1000) ?_
  simp -dsimp (decide := true) (disch := first | omega | simp (decide := true) only [helrb9]) only [helrb13, ↓brun_b, envOf, reduceIte, Nat.reduceEqDiff, Nat.reduceAdd, Nat.reduceSub, Nat.reduceMul, Nat.reduceBEq, Nat.reduceLeDiff, Nat.reduceLT, Int.reduceToNat, rho]
  refine Sem.draw' (by kernel_rfl) (.one 0 (.one 1 (.one 2 (.one 3 (.one 4 (.one 5 (.one 6 (.one 7 (.one 8 (.one 9 (.one 10 (.one 11 (.alt 12 (.alt 13 (.one 14 .done) .non) .non))))))))))))) [3] (by kernel_rfl) (fun G ff hG hf => ?_)
  simp (decide := true) only [helrb5, Nat.reduceAdd] at hG ⊢
  simp -dsimp (decide := true) (disch := first | omega | simp (decide := true) only [helrb9]) only [helrb14, ↓brun_b, envOf, reduceIte, Nat.reduceEqDiff, Nat.reduceAdd, Nat.reduceSub, Nat.reduceMul, Nat.reduceBEq, Nat.reduceLeDiff, Nat.reduceLT, Int.reduceToNat, rho, hG]
  refine OpSem.callq cal.f123 (plain_k2 mi mn pi pn n tx (by omega)) rfl rfl rfl (by simp only [bflat_a, helrb15]) (by simp only [bflat_a, helrb15]) (by simp -dsimp (decide := true) (disch := first | omega | simp (decide := true) only [helrb9]) only [helrb12, ↓brun_b, envOf, reduceIte, Nat.reduceEqDiff, Nat.reduceAdd, Nat.reduceSub, Nat.reduceMul, Nat.reduceBEq, Nat.reduceLeDiff, Nat.reduceLT, Int.reduceToNat]) ?_
  simp -dsimp (decide := true) (disch := first | omega | simp (decide := true) only [helrb9]) only [helrb13, ↓brun_b, envOf, reduceIte, Nat.reduceEqDiff, Nat.reduceAdd, Nat.reduceSub, Nat.reduceMul, Nat.reduceBEq, Nat.reduceLeDiff, Nat.reduceLT, Int.reduceToNat, rho, hG]
  refine hf _ (Sem.go (k := 1000) ?_)
  simp (decide := true) only [back_mk, backL_in, backL_row, backL_none, backL_nil, Nat.zero_add, Nat.reduceAdd]
  simp -dsimp (decide := true) (disch := first | omega | simp (decide := true) only [helrb9]) only [helrb16, ↓brun_b, envOf, reduceIte, Nat.reduceEqDiff, Nat.reduceAdd, Nat.reduceSub, Nat.reduceMul, Nat.reduceBEq, Nat.reduceLeDiff, Nat.reduceLT, Int.reduceToNat, rho]
  refine SQ.runL (rs := [.cell 4 151, .tmp 5]) [0, 1, 2, 4] _ _ rfl (And.intro rfl rfl) (by decide) rfl rfl ?_ ?_
  · simp -dsimp (decide := true) (disch := first | omega | simp (decide := true) only [helrb9]) only [helrb17, ↓brun_b, envOf, reduceIte, Nat.reduceEqDiff, Nat.reduceAdd, Nat.reduceSub, Nat.reduceMul, Nat.reduceBEq, Nat.reduceLeDiff, Nat.reduceLT, Int.reduceToNat, rho, frz1, ↓reduceIte]
  · simp -dsimp (decide := true) (disch := first | omega | simp (decide := true) only [helrb9]) only [helrb17, ↓brun_b, envOf, reduceIte, Nat.reduceEqDiff, Nat.reduceAdd, Nat.reduceSub, Nat.reduceMul, Nat.reduceBEq, Nat.reduceLeDiff, Nat.reduceLT, Int.reduceToNat, rho, frz1, ↓reduceIte]
end Go.Proofs
namespace Go.Proofs
open Go Go.SL
set_option maxRecDepth 100000
def helrb18 :=
  (And.intro (And.intro helrc3 helrc2) (And.intro helrc5 (And.intro @fh_flat @fk_flat)))
def helrb19 :=
  (And.intro (And.intro (And.intro helrc3 helrc2) (And.intro helrc5 (And.intro @bwk_a @eq_self.{1}))) (And.intro (And.intro @fh_flat @fk_flat) (And.intro @forall_const.{1} (And.intro @implies_true.{0} @implies_true.{1}))))
theorem pair_calls (id pid : I16) (up op : Bool) (mi mn pi pn base got : Int) (ts : List (List UInt8)) :
    SCall Try.prog 109 [.ptr 0 0 0] [some (.row ⟨39, 1, false, 204, fun _ => EC.c ⟨id, .v (.bool up), .v (.bool op), .v (.int .i64 mi), .v (.int .i64 mn), .v (.int .i64 pi), .v (.int .i64 pn), pid, .ptr 1 0 0⟩⟩), some (.row ⟨3, 1, false, 197, fun _ => [.v (.int .i64 base),   .slc 2 0 ts.length, .v (.int .i64 got)]⟩), some (.row ⟨1, ts.length, false, 35, trow ts⟩)]
      fun r L => r = .ret (.tup [.agg [.v (.int .i64 mi), .v (.int .i64 mn)], .agg [.v (.int .i64 pi), .v (.int .i64 pn)]]) ∧ L = [none, none, none] := by
  refine SCall.mk (fn := Try.f109) (by kernel_rfl) rfl (Nat.le_of_ble_eq_true (by kernel_rfl)) ?_
  refine Sem.go (k := 1000) ?_
  simp -dsimp (decide := true) (disch := first | omega | simp (decide := true) only [helrb9]) only [helrb18, ↓brun_b, envOf, reduceIte, Nat.reduceEqDiff, Nat.reduceAdd, Nat.reduceSub, Nat.reduceMul, Nat.reduceBEq, Nat.reduceLeDiff, Nat.reduceLT, Int.reduceToNat, rho]
  refine Sem.draw' (by kernel_rfl) (.one 0 (.one 1 (.one 2 (.one 3 (.one 4 (.one 5 (.one 6 (.one 7 (.alt 8 (.alt 9 .done .non) .non))))))))) [3, 4] (by kernel_rfl) (fun G ff hG hf => ?_)
  simp (decide := true) only [helrb5, Nat.reduceAdd] at hG ⊢
  simp -dsimp (decide := true) (disch := first | omega | simp (decide := true) only [helrb9]) only [helrb18, ↓brun_b, envOf, reduceIte, Nat.reduceEqDiff, Nat.reduceAdd, Nat.reduceSub, Nat.reduceMul, Nat.reduceBEq, Nat.reduceLeDiff, Nat.reduceLT, Int.reduceToNat, rho, hG]
  refine hf _ (Sem.go (k := 1000) ?_)
  simp (decide := true) only [back_mk, backL_in, backL_row, backL_none, backL_nil, Nat.zero_add, Nat.reduceAdd]
  simp -dsimp (decide := true) (disch := first | omega | simp (decide := true) only [helrb9]) only [helrb18, ↓brun_b, envOf, reduceIte, Nat.reduceEqDiff, Nat.reduceAdd, Nat.reduceSub, Nat.reduceMul, Nat.reduceBEq, Nat.reduceLeDiff, Nat.reduceLT, Int.reduceToNat, rho]
  refine SQ.runL (rs := [.cell 2 135, .cell 3 135]) [0, 1, 2] _ _ rfl (And.intro rfl rfl) (by decide) rfl rfl ?_ ?_
  · simp -dsimp (decide := true) (disch := first | omega | simp (decide := true) only [helrb9]) only [helrb19, ↓brun_b, envOf, reduceIte, Nat.reduceEqDiff, Nat.reduceAdd, Nat.reduceSub, Nat.reduceMul, Nat.reduceBEq, Nat.reduceLeDiff, Nat.reduceLT, Int.reduceToNat, rho, frz1, ↓reduceIte]
  · simp -dsimp (decide := true) (disch := first | omega | simp (decide := true) only [helrb9]) only [helrb19, ↓brun_b, envOf, reduceIte, Nat.reduceEqDiff, Nat.reduceAdd, Nat.reduceSub, Nat.reduceMul, Nat.reduceBEq, Nat.reduceLeDiff, Nat.reduceLT, Int.reduceToNat, rho, frz1, ↓reduceIte]
def helrb20 :=
  (And.intro (And.intro (And.intro helrc3 (And.intro helrc2 helrc5)) (And.intro helrc6 (And.intro @fh_flat @fk_flat))) (And.intro (And.intro @tab.a124 (And.intro @tab.a44 @tab.s124)) (And.intro @tab.s44 (And.intro @tab.u124 @tab.u44))))
def helrb21 :=
  (And.intro (And.intro (And.intro (And.intro helrc3 helrc2) (And.intro helrc5 helrc6)) (And.intro (And.intro @bwk_a @eq_self.{1}) (And.intro @fh_flat @fk_flat))) (And.intro (And.intro (And.intro @forall_const.{1} @implies_true.{0}) (And.intro @implies_true.{1} @tab.a124)) (And.intro (And.intro @tab.a44 @tab.s124) (And.intro @tab.s44 (And.intro @tab.u124 @tab.u44)))))
def helrb22 :=
  (And.intro (And.intro (And.intro helrc5 helrc6) (And.intro @tab.a124 @tab.a44)) (And.intro (And.intro @tab.s124 @tab.s44) (And.intro @tab.u124 @tab.u44)))
def helrb23 :=
  (And.intro (And.intro (And.intro helrc3 (And.intro helrc2 helrc5)) (And.intro helrc6 (And.intro @bs124 @fh_flat))) (And.intro (And.intro @fk_flat (And.intro @tab.a124 @tab.a44)) (And.intro (And.intro @tab.s124 @tab.s44) (And.intro @tab.u124 @tab.u44))))
theorem tickHi_calls (id pid : I16) (mi mn pi pn base got : Int) (ts : List (List UInt8)) :
    SCall Try.prog 100 [.ptr 0 0 0] [some (.row ⟨39, 1, false, 204, fun _ => EC.c ⟨id, .v (.bool true), .v (.bool false), .v (.int .i64 mi), .v (.int .i64 mn), .v (.int .i64 pi), .v (.int .i64 pn), pid, .ptr 1 0 0⟩⟩), some (.row ⟨3, 1, false, 197, fun _ => [.v (.int .i64 base), .slc 2 0 ts.length, .v (.int .i64 got)]⟩), some (.row ⟨1, ts.length, false, 35, trow ts⟩)]
      fun r L => r = .ret (.slc 3 0 1) ∧ L = [none, none, none, some (.row ⟨95, 1, true, 151, fun _ => FC.c { zF with kind := .v (.int .i64 1), fi := .v (.int .i64 mi), fn := .v (.int .i64 mn), ti := .v (.int .i64 pi), tn := .v (.int .i64 pn), a := id }⟩)] := by
  refine SCall.mk (fn := Try.f100) (by kernel_rfl) rfl (Nat.le_of_ble_eq_true (by kernel_rfl)) ?_
  refine Sem.go (k := 1000) ?_
  simp -dsimp (decide := true) (disch := first | omega | simp (decide := true) only [helrb9]) only [helrb20, ↓brun_b, envOf, reduceIte, Nat.reduceEqDiff, Nat.reduceAdd, Nat.reduceSub, Nat.reduceMul, Nat.reduceBEq, Nat.reduceLeDiff, Nat.reduceLT, Int.reduceToNat, rho]
  refine SemOps.callw [0, 1, 2] cal.f136 (hello_calls id pid true false mi mn pi pn base got ts) rfl rfl rfl (by simp -dsimp (decide := true) (disch := first | omega | simp (decide := true) only [helrb9]) only [helrb21, ↓brun_b, envOf, reduceIte, Nat.reduceEqDiff, Nat.reduceAdd, Nat.reduceSub, Nat.reduceMul, Nat.reduceBEq, Nat.reduceLeDiff, Nat.reduceLT, Int.reduceToNat, rho, frz1, ↓reduceIte]) rfl (by simp -dsimp (decide := true) (disch := first | omega | simp (decide := true) only [helrb9]) only [helrb21, ↓brun_b, envOf, reduceIte, Nat.reduceEqDiff, Nat.reduceAdd, Nat.reduceSub, Nat.reduceMul, Nat.reduceBEq, Nat.reduceLeDiff, Nat.reduceLT, Int.reduceToNat, rho, frz1, ↓reduceIte]) (by simp -dsimp (decide := true) (disch := first | omega | simp (decide := true) only [helrb9]) only [helrb22, ↓brun_b, envOf, reduceIte, Nat.reduceEqDiff, Nat.reduceAdd, Nat.reduceSub, Nat.reduceMul, Nat.reduceBEq, Nat.reduceLeDiff, Nat.reduceLT, Int.reduceToNat]) ?_
  refine SemOps.go (k := 1000) ?_
  simp -dsimp (decide := true) (disch := first | omega | simp (decide := true) only [helrb9]) only [helrb23, ↓brun_b, envOf, reduceIte, Nat.reduceEqDiff, Nat.reduceAdd, Nat.reduceSub, Nat.reduceMul, Nat.reduceBEq, Nat.reduceLeDiff, Nat.reduceLT, Int.reduceToNat, rho]
  refine SQ.runL (rs := [.tmp 2]) [0, 1, 2, 3] _ _ rfl (And.intro rfl rfl) (by decide) rfl rfl ?_ ?_
  · simp -dsimp (decide := true) (disch := first | omega | simp (decide := true) only [helrb9]) only [helrb21, ↓brun_b, envOf, reduceIte, Nat.reduceEqDiff, Nat.reduceAdd, Nat.reduceSub, Nat.reduceMul, Nat.reduceBEq, Nat.reduceLeDiff, Nat.reduceLT, Int.reduceToNat, rho, frz1, ↓reduceIte]
    exact fun e he => one124 _ e he (fh_flat _ _ _ _ _)
  · simp -dsimp (decide := true) (disch := first | omega | simp (decide := true) only [helrb9]) only [helrb21, ↓brun_b, envOf, reduceIte, Nat.reduceEqDiff, Nat.reduceAdd, Nat.reduceSub, Nat.reduceMul, Nat.reduceBEq, Nat.reduceLeDiff, Nat.reduceLT, Int.reduceToNat, rho, frz1, ↓reduceIte]
end Go.Proofs
namespace Go.SL
open Go
theorem trowsAt (ts : List (List UInt8)) (k : Nat) (h : k < ts.length) : (trows ts).getD k [] = trow ts k := by
  simp [trows, trow, List.getD_eq_getElem?_getD, List.getElem?_eq_getElem h]
end Go.SL
namespace Go.Proofs
open Go Go.SL
set_option maxRecDepth 100000
def dfam (mi mn pi pn : Int) (base : Nat) (ts : List (List UInt8)) (e : Nat) : List SV := FC.c { zF with kind := .v (.int .i64 2), fi := .v (.int .i64 mi), fn := .v (.int .i64 mn), ti := .v (.int .i64 pi), tn := .v (.int .i64 pn), n := .v (.int .i64 ((base + e : Nat) : Int)), tx := bsl (ts.getD e []) }
theorem dfam_flat (mi mn pi pn : Int) (base : Nat) (ts : List (List UInt8)) (e : Nat) : SV.flatL (dfam mi mn pi pn base ts e) = true := fd_flat _ _ _ _ _ _
theorem app_dfam {fz : Nat → Option SB} {ρ : Nat → Nat} (mi mn pi pn : Int) (base : Nat) (ts : List (List UInt8)) (k e : Nat) (he : e < k + 1) :
    EntL fz ρ (dfam mi mn pi pn base ts e) (if e < k then dfam mi mn pi pn base ts e else ((dfam mi mn pi pn base ts k).drop ((e - k) * 95)).take 95) := by
  by_cases h : e < k
  · rw [if_pos h]; exact EntL.self (dfam_flat _ _ _ _ _ _ _)
  · obtain rfl : e = k := by omega
    rw [if_neg h, Nat.sub_self, Nat.zero_mul, List.drop_zero, List.take_of_length_le (by unfold dfam; rw [FC.c_length]; exact Nat.le_refl _)]
    exact EntL.self (dfam_flat _ _ _ _ _ _ _)
def helrb24 :=
  (And.intro (And.intro helrc0 (And.intro helrc1 helrc2)) (And.intro (And.intro @dfam_flat @fd_flat) (And.intro @fh_flat @fk_flat)))
def helrb25 :=
  (And.intro (And.intro (And.intro helrc3 (And.intro helrc2 helrc5)) (And.intro helrc6 (And.intro @bl210b @fh_flat))) (And.intro (And.intro @fk_flat (And.intro @tab.a124 @tab.a44)) (And.intro (And.intro @tab.s124 @tab.s44) (And.intro @tab.u124 @tab.u44))))
def helrb26 :=
  (And.intro (And.intro helrc1 @dfam_flat) (And.intro @fd_flat (And.intro @fh_flat @fk_flat)))
theorem tickOpen_calls (id pid : I16) (mi mn pi pn got : Int) (base : Nat) (ts : List (List UInt8)) (h0 : base + ts.length < 4611686018427387904) (h1 : ts.length * 264 ≤ 140737488355328) (h2 : ∀ t ∈ ts, t.length ≤ 140737488355328) :
    SCall Try.prog 100 [.ptr 0 0 0] [some (.row ⟨39, 1, false, 204, fun _ => EC.c ⟨id, .v (.bool true), .v (.bool true), .v (.int .i64 mi), .v (.int .i64 mn), .v (.int .i64 pi), .v (.int .i64 pn), pid, .ptr 1 0 0⟩⟩), some (.row ⟨3, 1, false, 197, fun _ => [.v (.int .i64 (base : Int)), .slc 2 0 ts.length, .v (.int .i64 got)]⟩), some (.row ⟨1, ts.length, false, 35, trow ts⟩)]
      fun r L => r = .ret (.slc 3 0 ts.length) ∧ L = [none, none, none, some (.row ⟨95, ts.length, true, 151, dfam mi mn pi pn base ts⟩)] := by
  have hl : (trows ts).length = ts.length := trows_length ts
  refine SCall.mk (fn := Try.f100) (by kernel_rfl) rfl (Nat.le_of_ble_eq_true (by kernel_rfl)) ?_
  refine Sem.go (k := 1000) ?_
  simp -dsimp (decide := true) (disch := first | omega | simp (decide := true) only [helrb24]) only [helrb20, ↓brun_b, envOf, reduceIte, Nat.reduceEqDiff, Nat.reduceAdd, Nat.reduceSub, Nat.reduceMul, Nat.reduceBEq, Nat.reduceLeDiff, Nat.reduceLT, Int.reduceToNat, rho]
  refine SemOps.callw [1, 2] cal.f56 (waits_calls base got ts (by omega) h2) rfl rfl rfl (by simp -dsimp (decide := true) (disch := first | omega | simp (decide := true) only [helrb24]) only [helrb21, ↓brun_b, envOf, reduceIte, Nat.reduceEqDiff, Nat.reduceAdd, Nat.reduceSub, Nat.reduceMul, Nat.reduceBEq, Nat.reduceLeDiff, Nat.reduceLT, Int.reduceToNat, rho, frz1, ↓reduceIte]) rfl (by simp -dsimp (decide := true) (disch := first | omega | simp (decide := true) only [helrb24]) only [helrb21, ↓brun_b, envOf, reduceIte, Nat.reduceEqDiff, Nat.reduceAdd, Nat.reduceSub, Nat.reduceMul, Nat.reduceBEq, Nat.reduceLeDiff, Nat.reduceLT, Int.reduceToNat, rho, frz1, ↓reduceIte]) (by simp -dsimp (decide := true) (disch := first | omega | simp (decide := true) only [helrb24]) only [helrb22, ↓brun_b, envOf, reduceIte, Nat.reduceEqDiff, Nat.reduceAdd, Nat.reduceSub, Nat.reduceMul, Nat.reduceBEq, Nat.reduceLeDiff, Nat.reduceLT, Int.reduceToNat]) ?_
  refine SemOps.go (k := 1000) ?_
  simp -dsimp (decide := true) (disch := first | omega | simp (decide := true) only [helrb24]) only [helrb20, ↓brun_b, envOf, reduceIte, Nat.reduceEqDiff, Nat.reduceAdd, Nat.reduceSub, Nat.reduceMul, Nat.reduceBEq, Nat.reduceLeDiff, Nat.reduceLT, Int.reduceToNat, rho, hl]
  refine Sem.ghost 3 95 151 rfl ?_
  refine Sem.loop (ι := {k : Nat // k ≤ ts.length}) (fun k => ⟨62, 3, [(0, .ptr 0 0 0), (3, .slc 3 0 k.1), (4, .v (.int .i64 (base : Int))), (35, .rsl 1 (trows ts)), (36, .v (.int .i64 (ts.length : Int))), (37, .v (.int .i64 (k.1 : Int)))], [some (.row ⟨39, 1, false, 204, fun _ => EC.c ⟨id, .v (.bool true), .v (.bool true), .v (.int .i64 mi), .v (.int .i64 mn), .v (.int .i64 pi), .v (.int .i64 pn), pid, .ptr 1 0 0⟩⟩), some (.row ⟨3, 1, false, 197, fun _ => [.v (.int .i64 (base : Int)), .slc 2 0 ts.length, .v (.int .i64 got)]⟩), some (.row ⟨1, ts.length, false, 35, trow ts⟩), some (.row ⟨95, k.1, true, 151, dfam mi mn pi pn base ts⟩)]⟩) (fun k => ts.length - k.1) ⟨0, by omega⟩ [0, 1, 2, 3] ?_ ?_
  · (refine Wk.ofC ?_; simp -dsimp (decide := true) (disch := first | omega | simp (decide := true) only [helrb24]) only [helrb21, ↓brun_b, envOf, reduceIte, Nat.reduceEqDiff, Nat.reduceAdd, Nat.reduceSub, Nat.reduceMul, Nat.reduceBEq, Nat.reduceLeDiff, Nat.reduceLT, Int.reduceToNat, rho, frz1, ↓reduceIte])
  · rintro ⟨k, hk⟩
    refine Sem.go (k := 1000) ?_
    simp -dsimp (decide := true) (disch := first | omega | simp (decide := true) only [helrb24]) only [helrb20, ↓brun_b, envOf, reduceIte, Nat.reduceEqDiff, Nat.reduceAdd, Nat.reduceSub, Nat.reduceMul, Nat.reduceBEq, Nat.reduceLeDiff, Nat.reduceLT, Int.reduceToNat, rho]
    refine SCond.split (fun h3 => ?_) (fun h3 => ?_)
    · simp only [decide_eq_true_eq] at h3
      have hk' : k < ts.length := by omega
      have hw1 : IntKind.i64.wrap ((base : Int) + (k : Int)) = ((base + k : Nat) : Int) := by rw [wrap_i64 _ (by omega)]; rfl
      have hw2 : IntKind.i64.wrap ((k : Int) + 1) = ((k + 1 : Nat) : Int) := by rw [wrap_i64 _ (by omega)]; rfl
      have ht : (ts.getD k []).length ≤ 140737488355328 := h2 _ (by rw [List.getD_eq_getElem?_getD, List.getElem?_eq_getElem hk', Option.getD_some]; exact List.getElem_mem hk')
      simp -dsimp (decide := true) (disch := first | omega | simp (decide := true) only [helrb24]) only [helrb20, ↓brun_b, envOf, reduceIte, Nat.reduceEqDiff, Nat.reduceAdd, Nat.reduceSub, Nat.reduceMul, Nat.reduceBEq, Nat.reduceLeDiff, Nat.reduceLT, Int.reduceToNat, rho, trowsAt _ _ hk', hl]
      refine And.intro (by omega) ?_
      refine Sem.draw' (by kernel_rfl) (.one 0 (.one 1 (.one 2 (.one 3 (.one 4 (.one 5 (.one 6 (.one 7 (.one 8 (.one 9 (.one 10 (.one 11 (.one 12 (.one 13 (.one 14 (.alt 15 (.alt 16 (.alt 17 (.one 18 .done) .non) .non) .non)))))))))))))))) [3] (by kernel_rfl) (fun G ff hG hf => ?_)
      simp (decide := true) only [helrb5, Nat.reduceAdd] at hG ⊢
      simp -dsimp (decide := true) (disch := first | omega | simp (decide := true) only [helrb24]) only [helrb25, ↓brun_b, envOf, reduceIte, Nat.reduceEqDiff, Nat.reduceAdd, Nat.reduceSub, Nat.reduceMul, Nat.reduceBEq, Nat.reduceLeDiff, Nat.reduceLT, Int.reduceToNat, rho, hG, hw1]
      refine OpSem.callq cal.f123 (plain_k2 mi mn pi pn ((base + k : Nat) : Int) (ts.getD k []) ht) rfl rfl rfl (by simp only [bflat_a, helrb26]) (by simp only [bflat_a, helrb26]) (by simp -dsimp (decide := true) (disch := first | omega | simp (decide := true) only [helrb24]) only [helrb22, ↓brun_b, envOf, reduceIte, Nat.reduceEqDiff, Nat.reduceAdd, Nat.reduceSub, Nat.reduceMul, Nat.reduceBEq, Nat.reduceLeDiff, Nat.reduceLT, Int.reduceToNat]) ?_
      simp -dsimp (decide := true) (disch := first | omega | simp (decide := true) only [helrb24]) only [helrb23, ↓brun_b, envOf, reduceIte, Nat.reduceEqDiff, Nat.reduceAdd, Nat.reduceSub, Nat.reduceMul, Nat.reduceBEq, Nat.reduceLeDiff, Nat.reduceLT, Int.reduceToNat, rho, hG, sapp1_sl el151, Nat.le_refl]
      refine And.intro (by omega) ?_
      refine hf _ (Sem.go (k := 1000) ?_)
      simp (decide := true) only [back_mk, backL_in, backL_row, backL_none, backL_nil, Nat.zero_add, Nat.reduceAdd]
      simp -dsimp (decide := true) (disch := first | omega | simp (decide := true) only [helrb24]) only [helrb20, ↓brun_b, envOf, reduceIte, Nat.reduceEqDiff, Nat.reduceAdd, Nat.reduceSub, Nat.reduceMul, Nat.reduceBEq, Nat.reduceLeDiff, Nat.reduceLT, Int.reduceToNat, rho, hw2]
      refine ⟨⟨k + 1, by omega⟩, [0, 1, 2, 5], ?_, by show ts.length - (k + 1) < ts.length - k; omega⟩
      (refine Wk.ofC ?_; simp -dsimp (decide := true) (disch := first | omega | simp (decide := true) only [helrb24]) only [helrb21, ↓brun_b, envOf, reduceIte, Nat.reduceEqDiff, Nat.reduceAdd, Nat.reduceSub, Nat.reduceMul, Nat.reduceBEq, Nat.reduceLeDiff, Nat.reduceLT, Int.reduceToNat, rho, frz1, ↓reduceIte])
      exact fun e he => app_dfam mi mn pi pn base ts k e he
    · have hk2 : k = ts.length := by
        simp only [decide_eq_false_iff_not] at h3
        omega
      subst hk2
      simp -dsimp (decide := true) (disch := first | omega | simp (decide := true) only [helrb24]) only [helrb20, ↓brun_b, envOf, reduceIte, Nat.reduceEqDiff, Nat.reduceAdd, Nat.reduceSub, Nat.reduceMul, Nat.reduceBEq, Nat.reduceLeDiff, Nat.reduceLT, Int.reduceToNat, rho]
      refine SQ.runL (rs := [.tmp 2]) [0, 1, 2, 3] _ _ rfl (And.intro rfl rfl) (by decide) rfl rfl ?_ ?_
      · simp -dsimp (decide := true) (disch := first | omega | simp (decide := true) only [helrb24]) only [helrb21, ↓brun_b, envOf, reduceIte, Nat.reduceEqDiff, Nat.reduceAdd, Nat.reduceSub, Nat.reduceMul, Nat.reduceBEq, Nat.reduceLeDiff, Nat.reduceLT, Int.reduceToNat, rho, frz1, ↓reduceIte]
      · simp -dsimp (decide := true) (disch := first | omega | simp (decide := true) only [helrb24]) only [helrb21, ↓brun_b, envOf, reduceIte, Nat.reduceEqDiff, Nat.reduceAdd, Nat.reduceSub, Nat.reduceMul, Nat.reduceBEq, Nat.reduceLeDiff, Nat.reduceLT, Int.reduceToNat, rho, frz1, ↓reduceIte]
end Go.Proofs
namespace Go.Proofs
open Go Go.SL
set_option maxRecDepth 100000
def helrb27 :=
  (And.intro (And.intro (And.intro helrc3 (And.intro helrc2 helrc4)) (And.intro helrc5 (And.intro helrc6 helrc7))) (And.intro (And.intro @fh_flat (And.intro @fk_flat @hit214)) (And.intro @tab.a124 (And.intro @tab.s124 @tab.u124))))
theorem hear_ackback (F : Frm) (hk : F.kind = 1) (id pid : I16) (mi mn pi pn nxi nxn base got : Int) (ts : List (List UInt8))
    (h1 : (decide (F.fi < pi) || (decide (F.fi = pi) && decide (F.fn < pn))) = false) (h0 : (decide (F.fi = 0) && decide (F.fn = 0)) = false) (h2 : (decide (pi < F.fi) || (decide (pi = F.fi) && decide (pn < F.fn))) = false)
    (hc : (decide (F.ti = mi) && decide (F.tn = mn)) = true) :
    SCall Try.prog 106 [.ptr 0 0 0, .agg F.fc.c, .agg [.v (.int .i64 nxi), .v (.int .i64 nxn)]] [some (.row ⟨39, 1, true, 204, fun _ => EC.c ⟨id, .v (.bool true), .v (.bool true), .v (.int .i64 mi), .v (.int .i64 mn), .v (.int .i64 pi), .v (.int .i64 pn), pid, .ptr 1 0 0⟩⟩), some (.row ⟨3, 1, false, 197, fun _ => [.v (.int .i64 base), .slc 2 0 ts.length, .v (.int .i64 got)]⟩), some (.row ⟨1, ts.length, false, 35, trow ts⟩)]
      fun r L => r = .ret (.agg [.v (.bool false), .v (.bool false), .v (.slice none 0 0), .v (.bool false), .slc 3 0 1]) ∧
        L = [some (.row ⟨39, 1, true, 204, fun _ => EC.c ⟨id, .v (.bool true), .v (.bool true), .v (.int .i64 mi), .v (.int .i64 mn), .v (.int .i64 pi), .v (.int .i64 pn), pid, .ptr 1 0 0⟩⟩), none, none, some (.row ⟨95, 1, true, 151, fun _ => FC.c { zF with kind := .v (.int .i64 3), fi := .v (.int .i64 mi), fn := .v (.int .i64 mn), ti := .v (.int .i64 pi), tn := .v (.int .i64 pn), n := .v (.int .i64 got) }⟩)] := by
  have hg := greeted_ack id pid F.a true mi mn pi pn F.fi F.fn F.ti F.tn nxi nxn base got ts h1 h0 h2 hc
  have ho := of_hello F hk
  simp only [Frm.fc] at ho ⊢
  refine SCall.mk (fn := Try.f106) (by kernel_rfl) rfl (Nat.le_of_ble_eq_true (by kernel_rfl)) ?_
  refine Sem.go (k := 1000) ?_
  simp -dsimp (decide := true) (disch := first | omega | simp (decide := true) only [helrb0]) only [helrb1, ↓brun_b, envOf, reduceIte, Nat.reduceEqDiff, Nat.reduceAdd, Nat.reduceSub, Nat.reduceMul, Nat.reduceBEq, Nat.reduceLeDiff, Nat.reduceLT, Int.reduceToNat, rho]
  refine SemOps.callq (k := 1000) cal.f119 (ho) rfl rfl rfl rfl (by simp only [bflat_a, helrb2]) (by simp only [bflat_a, helrb2]) (by simp -dsimp (decide := true) (disch := first | omega | simp (decide := true) only [helrb0]) only [helrb3, ↓brun_b, envOf, reduceIte, Nat.reduceEqDiff, Nat.reduceAdd, Nat.reduceSub, Nat.reduceMul, Nat.reduceBEq, Nat.reduceLeDiff, Nat.reduceLT, Int.reduceToNat]) ?_
  simp -dsimp (decide := true) (disch := first | omega | simp (decide := true) only [helrb0]) only [helrb27, ↓brun_b, envOf, reduceIte, Nat.reduceEqDiff, Nat.reduceAdd, Nat.reduceSub, Nat.reduceMul, Nat.reduceBEq, Nat.reduceLeDiff, Nat.reduceLT, Int.reduceToNat, rho]
  refine SemOps.callw [0, 1, 2] cal.f140 (hg) rfl rfl rfl (by simp -dsimp (decide := true) (disch := first | omega | simp (decide := true) only [helrb0]) only [helrb7, ↓brun_b, envOf, reduceIte, Nat.reduceEqDiff, Nat.reduceAdd, Nat.reduceSub, Nat.reduceMul, Nat.reduceBEq, Nat.reduceLeDiff, Nat.reduceLT, Int.reduceToNat, rho, frz1, ↓reduceIte]) rfl (by simp -dsimp (decide := true) (disch := first | omega | simp (decide := true) only [helrb0]) only [helrb7, ↓brun_b, envOf, reduceIte, Nat.reduceEqDiff, Nat.reduceAdd, Nat.reduceSub, Nat.reduceMul, Nat.reduceBEq, Nat.reduceLeDiff, Nat.reduceLT, Int.reduceToNat, rho, frz1, ↓reduceIte]) (by simp -dsimp (decide := true) (disch := first | omega | simp (decide := true) only [helrb0]) only [helrb3, ↓brun_b, envOf, reduceIte, Nat.reduceEqDiff, Nat.reduceAdd, Nat.reduceSub, Nat.reduceMul, Nat.reduceBEq, Nat.reduceLeDiff, Nat.reduceLT, Int.reduceToNat]) ?_
  refine SemOps.go (k := 1000) ?_
  simp -dsimp (decide := true) (disch := first | omega | simp (decide := true) only [helrb0]) only [helrb1, ↓brun_b, envOf, reduceIte, Nat.reduceEqDiff, Nat.reduceAdd, Nat.reduceSub, Nat.reduceMul, Nat.reduceBEq, Nat.reduceLeDiff, Nat.reduceLT, Int.reduceToNat, rho]
  refine SQ.runL (rs := [.cell 6 162]) [0, 1, 2, 7] _ _ rfl (And.intro rfl rfl) (by decide) rfl rfl ?_ ?_
  · simp -dsimp (decide := true) (disch := first | omega | simp (decide := true) only [helrb0]) only [helrb6, ↓brun_b, envOf, reduceIte, Nat.reduceEqDiff, Nat.reduceAdd, Nat.reduceSub, Nat.reduceMul, Nat.reduceBEq, Nat.reduceLeDiff, Nat.reduceLT, Int.reduceToNat, rho, frz1, ↓reduceIte]
  · simp -dsimp (decide := true) (disch := first | omega | simp (decide := true) only [helrb0]) only [helrb6, ↓brun_b, envOf, reduceIte, Nat.reduceEqDiff, Nat.reduceAdd, Nat.reduceSub, Nat.reduceMul, Nat.reduceBEq, Nat.reduceLeDiff, Nat.reduceLT, Int.reduceToNat, rho, frz1, ↓reduceIte]
theorem hear_bad (F : Frm) (hk : F.kind = 1) (id pid : I16) (op : Bool) (mi mn pi pn nxi nxn base got : Int) (ts : List (List UInt8))
    (hb : ((decide (F.fi < pi) || (decide (F.fi = pi) && decide (F.fn < pn))) || (decide (F.fi = 0) && decide (F.fn = 0))) = true) :
    SCall Try.prog 106 [.ptr 0 0 0, .agg F.fc.c, .agg [.v (.int .i64 nxi), .v (.int .i64 nxn)]] [some (.row ⟨39, 1, false, 204, fun _ => EC.c ⟨id, .v (.bool true), .v (.bool op), .v (.int .i64 mi), .v (.int .i64 mn), .v (.int .i64 pi), .v (.int .i64 pn), pid, .ptr 1 0 0⟩⟩), some (.row ⟨3, 1, false, 197, fun _ => [.v (.int .i64 base), .slc 2 0 ts.length, .v (.int .i64 got)]⟩), some (.row ⟨1, ts.length, false, 35, trow ts⟩)]
      fun r L => r = .ret (.agg [.v (.bool false), .v (.bool false), .v (.slice none 0 0), .v (.bool false), .v (.slice none 0 0)]) ∧ L = [none, none, none] := by
  have hg := greeted_bad id pid F.a true op mi mn pi pn F.fi F.fn F.ti F.tn nxi nxn base got ts hb
  have ho := of_hello F hk
  simp only [Frm.fc] at ho ⊢
  refine SCall.mk (fn := Try.f106) (by kernel_rfl) rfl (Nat.le_of_ble_eq_true (by kernel_rfl)) ?_
  refine Sem.go (k := 1000) ?_
  simp -dsimp (decide := true) (disch := first | omega | simp (decide := true) only [helrb0]) only [helrb1, ↓brun_b, envOf, reduceIte, Nat.reduceEqDiff, Nat.reduceAdd, Nat.reduceSub, Nat.reduceMul, Nat.reduceBEq, Nat.reduceLeDiff, Nat.reduceLT, Int.reduceToNat, rho]
  refine SemOps.callq (k := 1000) cal.f119 (ho) rfl rfl rfl rfl (by simp only [bflat_a, helrb2]) (by simp only [bflat_a, helrb2]) (by simp -dsimp (decide := true) (disch := first | omega | simp (decide := true) only [helrb0]) only [helrb3, ↓brun_b, envOf, reduceIte, Nat.reduceEqDiff, Nat.reduceAdd, Nat.reduceSub, Nat.reduceMul, Nat.reduceBEq, Nat.reduceLeDiff, Nat.reduceLT, Int.reduceToNat]) ?_
  simp -dsimp (decide := true) (disch := first | omega | simp (decide := true) only [helrb0]) only [helrb27, ↓brun_b, envOf, reduceIte, Nat.reduceEqDiff, Nat.reduceAdd, Nat.reduceSub, Nat.reduceMul, Nat.reduceBEq, Nat.reduceLeDiff, Nat.reduceLT, Int.reduceToNat, rho]
  refine SemOps.callw [0, 1, 2] cal.f140 (hg) rfl rfl rfl (by simp -dsimp (decide := true) (disch := first | omega | simp (decide := true) only [helrb0]) only [helrb7, ↓brun_b, envOf, reduceIte, Nat.reduceEqDiff, Nat.reduceAdd, Nat.reduceSub, Nat.reduceMul, Nat.reduceBEq, Nat.reduceLeDiff, Nat.reduceLT, Int.reduceToNat, rho, frz1, ↓reduceIte]) rfl (by simp -dsimp (decide := true) (disch := first | omega | simp (decide := true) only [helrb0]) only [helrb7, ↓brun_b, envOf, reduceIte, Nat.reduceEqDiff, Nat.reduceAdd, Nat.reduceSub, Nat.reduceMul, Nat.reduceBEq, Nat.reduceLeDiff, Nat.reduceLT, Int.reduceToNat, rho, frz1, ↓reduceIte]) (by simp -dsimp (decide := true) (disch := first | omega | simp (decide := true) only [helrb0]) only [helrb3, ↓brun_b, envOf, reduceIte, Nat.reduceEqDiff, Nat.reduceAdd, Nat.reduceSub, Nat.reduceMul, Nat.reduceBEq, Nat.reduceLeDiff, Nat.reduceLT, Int.reduceToNat]) ?_
  refine SemOps.go (k := 1000) ?_
  simp -dsimp (decide := true) (disch := first | omega | simp (decide := true) only [helrb0]) only [helrb1, ↓brun_b, envOf, reduceIte, Nat.reduceEqDiff, Nat.reduceAdd, Nat.reduceSub, Nat.reduceMul, Nat.reduceBEq, Nat.reduceLeDiff, Nat.reduceLT, Int.reduceToNat, rho]
  refine SQ.runL (rs := [.cell 6 162]) [0, 1, 2] _ _ rfl (And.intro rfl rfl) (by decide) rfl rfl ?_ ?_
  · simp -dsimp (decide := true) (disch := first | omega | simp (decide := true) only [helrb0]) only [helrb6, ↓brun_b, envOf, reduceIte, Nat.reduceEqDiff, Nat.reduceAdd, Nat.reduceSub, Nat.reduceMul, Nat.reduceBEq, Nat.reduceLeDiff, Nat.reduceLT, Int.reduceToNat, rho, frz1, ↓reduceIte]
  · simp -dsimp (decide := true) (disch := first | omega | simp (decide := true) only [helrb0]) only [helrb6, ↓brun_b, envOf, reduceIte, Nat.reduceEqDiff, Nat.reduceAdd, Nat.reduceSub, Nat.reduceMul, Nat.reduceBEq, Nat.reduceLeDiff, Nat.reduceLT, Int.reduceToNat, rho, frz1, ↓reduceIte]
end Go.Proofs
namespace Go.SL
open Go
def frows (Fs : List Frm) : List (List SV) := Fs.map fun F => F.fc.c
end Go.SL
namespace Go.Proofs
open Go Go.SL
set_option maxRecDepth 100000
theorem Frm.flat (F : Frm) : SV.flatL F.fc.c = true := frm_flat _ _ _ _ _ _ _ _ _ _ _ _ _ _ _ _ _ _ _ _
theorem frows_flat (Fs : List Frm) : SV.flatR (frows Fs) = true := flatR_map _ _ fun F => Frm.flat F
end Go.Proofs
