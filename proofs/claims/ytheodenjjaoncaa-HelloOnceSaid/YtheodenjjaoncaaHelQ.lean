/- Contracts of functions that the laws reach, on abstract values, and what they need: no conditions but those that each theorem states. -/
import Derived.Test.YtheodenjjaoncaaHelP
set_option linter.unusedVariables false
set_option linter.unusedSimpArgs false
set_option linter.defProp false
namespace Go.Proofs
open Go Go.SL
set_option maxRecDepth 100000
theorem el151 : ElTy Try.prog 151 95 264 := ⟨tab.s151, tab.b151, ⟨_, tab.z151, rfl⟩, by decide, by decide⟩
theorem appF_el (f : FC) (e : Nat) (he : e < 1) {fz : Nat → Option SB} {ρ : Nat → Nat} (h : SV.flatL f.c = true) : EntL fz ρ f.c (if e < 0 then [] else ((f.c.drop ((0 + (e - 0)) * 95)).take 95)) := by
  obtain rfl : e = 0 := by omega
  exact one124 f 0 he h
def helqc0 :=
  (And.intro (And.intro @EC.c_length @FC.c_length) (And.intro @H1.c_length (And.intro @I16.c_length @trow_len)))
def helqc1 :=
  (And.intro (And.intro (And.intro @EC.flat @H1.flat) (And.intro @I16.flat @IC.flat)) (And.intro (And.intro @brow_flat @idrs_flat) (And.intro @lrows_flat (And.intro @trow_flat @trows_flat))))
def helqc2 :=
  (And.intro (And.intro (And.intro @EC.one (And.intro @FC.flat_eq @FC.one_eq)) (And.intro @H1.one (And.intro @I16.one @IC.c_length))) (And.intro (And.intro @IC.one (And.intro @bdset_a @trows_length)) (And.intro (And.intro @zD.eq_1 @zE.eq_1) (And.intro @zH.eq_1 @zK.eq_1))))
def helqb0 :=
  (And.intro (And.intro helqc0 (And.intro helqc1 helqc2)) (And.intro @fh_flat (And.intro @fk_flat @zF.eq_1)))
def helqc3 :=
  (And.intro (And.intro (And.intro (And.intro (And.intro (And.intro @EC.at_op @EC.at_up) (And.intro @EC.at_w @EC.ent)) (And.intro (And.intro @EC.part @EC.part_id) (And.intro @EC.part_mine @EC.part_peer))) (And.intro (And.intro (And.intro @EC.part_pid @EC.renc) (And.intro @EC.set_all @EC.set_mine)) (And.intro (And.intro @EC.set_op @EC.set_peer) (And.intro @EC.set_pid @EC.set_up)))) (And.intro (And.intro (And.intro (And.intro @EC.set_w @FC.part) (And.intro @FC.set_all @H1.part)) (And.intro (And.intro @H1.part_a @H1.part_from) (And.intro @H1.part_to @H1.set_all))) (And.intro (And.intro (And.intro @I16.part @Int.cast_ofNat_Int) (And.intro @List.replicate_succ.{0} @List.replicate_zero.{0})) (And.intro (And.intro @SKren_row @after_mk) (And.intro @al135 @al151))))) (And.intro (And.intro (And.intro (And.intro (And.intro @al162 @al210) (And.intro @al214 @al218)) (And.intro (And.intro @al23 @build135z) (And.intro @build151a @build151h))) (And.intro (And.intro (And.intro @build151z @build162z) (And.intro @build214 @build23z)) (And.intro (And.intro @cellAt_succ @cellAt_zero) (And.intro @mergeL_done @mergeL_own)))) (And.intro (And.intro (And.intro (And.intro @mergeL_row @mk210) (And.intro @mk214 @mk218)) (And.intro (And.intro @renL_cons @renL_flat) (And.intro @renL_nil @ren_tup))) (And.intro (And.intro (And.intro @sop_assert @sp02) (And.intro @sp05 @sp22)) (And.intro (And.intro @splice_0 @splice_c) (And.intro @splice_s @trow_cell))))))
def helqc4 :=
  (And.intro (And.intro (And.intro (And.intro @beq_self_eq_true.{0} @brun_a) (And.intro @cond_false.{1} (And.intro @cond_true.{1} @tab.a135))) (And.intro (And.intro @tab.a2 @tab.a23) (And.intro @tab.a4 (And.intro @tab.a5 @tab.f135x0)))) (And.intro (And.intro (And.intro @tab.f135x1 @tab.s135) (And.intro @tab.s2 (And.intro @tab.s23 @tab.s4))) (And.intro (And.intro @tab.s5 (And.intro @tab.u135 @tab.u2)) (And.intro @tab.u23 (And.intro @tab.u4 @tab.u5)))))
def helqc5 :=
  (And.intro (And.intro (And.intro @tab.a124 @tab.a162) (And.intro @tab.f162x0 (And.intro @tab.f162x1 @tab.f162x2))) (And.intro (And.intro @tab.f162x3 @tab.f162x4) (And.intro @tab.s124 (And.intro @tab.s162 @tab.u124))))
def helqc6 :=
  (And.intro (And.intro (And.intro @tab.a151 (And.intro @tab.a3 @tab.a35)) (And.intro (And.intro @tab.f151x0 @tab.f151x13) (And.intro @tab.f151x3 @tab.f151x5))) (And.intro (And.intro @tab.f151x6 (And.intro @tab.f151x7 @tab.s151)) (And.intro (And.intro @tab.s3 @tab.s35) (And.intro @tab.u3 @tab.u35))))
def helqc7 :=
  (And.intro (And.intro @tab.a214 (And.intro @tab.f214x0 @tab.f214x1)) (And.intro @tab.f214x2 (And.intro @tab.s214 @tab.u214)))
def helqc8 :=
  (And.intro (And.intro (And.intro @tab.a50 @tab.f204x0) (And.intro @tab.f204x1 (And.intro @tab.f204x2 @tab.f204x3))) (And.intro (And.intro @tab.f204x4 (And.intro @tab.f204x5 @tab.f204x6)) (And.intro @tab.s204 (And.intro @tab.s50 @tab.u50))))
def helqb1 :=
  (And.intro (And.intro (And.intro helqc3 (And.intro helqc0 helqc4)) (And.intro helqc5 (And.intro helqc6 helqc7))) (And.intro (And.intro helqc8 (And.intro @fh_flat @fk_flat)) (And.intro @tab.a121 (And.intro @tab.s121 @tab.u121))))
def helqb2 :=
  (And.intro (And.intro (And.intro @List.length_cons.{0} @List.length_nil.{0}) (And.intro @Nat.zero_add @roL_in)) (And.intro (And.intro @roL_nil @roL_none) (And.intro @roL_row @ro_mk)))
def helqb3 :=
  (And.intro helqc1 (And.intro @fh_flat @fk_flat))
def helqb4 :=
  (And.intro (And.intro (And.intro helqc4 helqc5) (And.intro helqc6 helqc7)) (And.intro (And.intro helqc8 @tab.a121) (And.intro @tab.s121 @tab.u121)))
def helqb5 :=
  (And.intro (And.intro (And.intro (And.intro helqc3 helqc0) (And.intro helqc4 helqc5)) (And.intro (And.intro helqc6 helqc7) (And.intro helqc8 @bwk_a))) (And.intro (And.intro (And.intro @eq_self.{1} @fh_flat) (And.intro @fk_flat @forall_const.{1})) (And.intro (And.intro @implies_true.{0} @implies_true.{1}) (And.intro @tab.a121 (And.intro @tab.s121 @tab.u121)))))
def helqb6 :=
  (And.intro (And.intro (And.intro helqc3 (And.intro helqc0 helqc4)) (And.intro helqc5 (And.intro helqc6 helqc7))) (And.intro (And.intro helqc8 (And.intro @bs124 @fh_flat)) (And.intro (And.intro @fk_flat @tab.a121) (And.intro @tab.s121 @tab.u121))))
set_option maxHeartbeats 4000000 in
theorem greeted_new (id pid aid : I16) (up op o2 : Bool) (mi mn pi pn fi fn ti tn nxi nxn base got m2 n2 : Int) (ts : List (List UInt8))
    (h1 : (decide (fi < pi) || (decide (fi = pi) && decide (fn < pn))) = false) (h0 : (decide (fi = 0) && decide (fn = 0)) = false) (h2 : (decide (pi < fi) || (decide (pi = fi) && decide (pn < fn))) = true)
    (hm : m2 = bif op then nxi else mi) (hn : n2 = bif op then nxn else mn) (hc : (decide (ti = m2) && decide (tn = n2)) = o2) :
    SCall Try.prog 140 [.ptr 0 0 0, .agg (H1.c ⟨.v (.int .i64 fi), .v (.int .i64 fn), .v (.int .i64 ti), .v (.int .i64 tn), aid⟩), .agg [.v (.int .i64 nxi), .v (.int .i64 nxn)]] [some (.row ⟨39, 1, true, 204, fun _ => EC.c ⟨id, .v (.bool up), .v (.bool op), .v (.int .i64 mi), .v (.int .i64 mn), .v (.int .i64 pi), .v (.int .i64 pn), pid, .ptr 1 0 0⟩⟩), some (.row ⟨3, 1, false, 197, fun _ => [.v (.int .i64 base), .slc 2 0 ts.length, .v (.int .i64 got)]⟩), some (.row ⟨1, ts.length, false, 35, trow ts⟩)]
      fun r L => r = .ret (.agg [.v (.bool op), .v (.bool o2), .v (.slice none 0 0), .v (.bool false), .slc 5 0 1]) ∧
        L = [some (.row ⟨39, 1, true, 204, fun _ => EC.c ⟨id, .v (.bool up), .v (.bool o2), .v (.int .i64 m2), .v (.int .i64 n2), .v (.int .i64 fi), .v (.int .i64 fn), aid, .ptr 3 0 0⟩⟩), none, none, some (.row ⟨3, 1, true, 197, fun _ => [.v (.int .i64 1), .slc 4 0 0, .v (.int .i64 0)]⟩), some (.row ⟨1, 0, true, 35, trow []⟩),
          some (.row ⟨95, 1, true, 151, fun _ => FC.c { zF with kind := .v (.int .i64 1), fi := .v (.int .i64 m2), fn := .v (.int .i64 n2), ti := .v (.int .i64 fi), tn := .v (.int .i64 fn), a := id }⟩)] := by
  have hh := hello_calls id aid up o2 m2 n2 fi fn 1 0 []
  cases op <;> cases o2
  all_goals
    simp only [cond_true, cond_false] at hm hn
    subst hm hn
    refine SCall.mk (fn := Try.f140) (by kernel_rfl) rfl (Nat.le_of_ble_eq_true (by kernel_rfl)) ?_
    refine Sem.go (k := 1000) ?_
    simp -dsimp (decide := true) (disch := first | omega | simp (decide := true) only [helqb0]) only [helqb1, ↓brun_b, envOf, reduceIte, Nat.reduceEqDiff, Nat.reduceAdd, Nat.reduceSub, Nat.reduceMul, Nat.reduceBEq, Nat.reduceLeDiff, Nat.reduceLT, Int.reduceToNat, rho]
    refine Sem.draw' (by kernel_rfl) (.one 0 (.one 1 (.one 2 (.one 3 (.one 4 (.one 5 (.alt 6 (.one 7 (.one 8 (.one 9 (.one 10 (.one 11 (.one 12 .done)))))) .non))))))) [] (by kernel_rfl) (fun G ff hG hf => ?_)
    simp (decide := true) only [helqb2, Nat.reduceAdd] at hG ⊢
    simp -dsimp (decide := true) (disch := first | omega | simp (decide := true) only [helqb0]) only [helqb1, ↓brun_b, envOf, reduceIte, Nat.reduceEqDiff, Nat.reduceAdd, Nat.reduceSub, Nat.reduceMul, Nat.reduceBEq, Nat.reduceLeDiff, Nat.reduceLT, Int.reduceToNat, rho, hG]
    refine OpSem.callq cal.f171 (numLess_calls fi fn pi pn) rfl rfl rfl (by simp only [bflat_a, helqb3]) (by simp only [bflat_a, helqb3]) (by simp -dsimp (decide := true) (disch := first | omega | simp (decide := true) only [helqb0]) only [helqb4, ↓brun_b, envOf, reduceIte, Nat.reduceEqDiff, Nat.reduceAdd, Nat.reduceSub, Nat.reduceMul, Nat.reduceBEq, Nat.reduceLeDiff, Nat.reduceLT, Int.reduceToNat]) ?_
    simp -dsimp (decide := true) (disch := first | omega | simp (decide := true) only [helqb0]) only [helqb1, ↓brun_b, envOf, reduceIte, Nat.reduceEqDiff, Nat.reduceAdd, Nat.reduceSub, Nat.reduceMul, Nat.reduceBEq, Nat.reduceLeDiff, Nat.reduceLT, Int.reduceToNat, rho, sBin_agg .eql 23 _ _ _ (I16.cellsEq _ _), sBin_agg .eql 135 _ _ _ (ceq135 _ _ _ _), sBin_agg .neq 23 _ _ _ (I16.cellsEq _ _), sBin_agg .neq 135 _ _ _ (ceq135 _ _ _ _), hG, h1, h0]
    refine And.intro (flat135 _ _ _ _) ?_
    refine hf _ (Sem.go (k := 1000) ?_)
    simp (decide := true) only [back_mk, backL_in, backL_row, backL_none, backL_nil, Nat.zero_add, Nat.reduceAdd]
    simp -dsimp (decide := true) (disch := first | omega | simp (decide := true) only [helqb0]) only [helqb1, ↓brun_b, envOf, reduceIte, Nat.reduceEqDiff, Nat.reduceAdd, Nat.reduceSub, Nat.reduceMul, Nat.reduceBEq, Nat.reduceLeDiff, Nat.reduceLT, Int.reduceToNat, rho]
    refine Sem.draw' (by kernel_rfl) (.one 0 (.one 1 (.one 2 (.one 3 (.one 4 (.one 5 (.alt 6 .done .non))))))) [] (by kernel_rfl) (fun G ff hG hf => ?_)
    simp (decide := true) only [helqb2, Nat.reduceAdd] at hG ⊢
    simp -dsimp (decide := true) (disch := first | omega | simp (decide := true) only [helqb0]) only [helqb1, ↓brun_b, envOf, reduceIte, Nat.reduceEqDiff, Nat.reduceAdd, Nat.reduceSub, Nat.reduceMul, Nat.reduceBEq, Nat.reduceLeDiff, Nat.reduceLT, Int.reduceToNat, rho, hG]
    refine OpSem.callq cal.f171 (numLess_calls pi pn fi fn) rfl rfl rfl (by simp only [bflat_a, helqb3]) (by simp only [bflat_a, helqb3]) (by simp -dsimp (decide := true) (disch := first | omega | simp (decide := true) only [helqb0]) only [helqb4, ↓brun_b, envOf, reduceIte, Nat.reduceEqDiff, Nat.reduceAdd, Nat.reduceSub, Nat.reduceMul, Nat.reduceBEq, Nat.reduceLeDiff, Nat.reduceLT, Int.reduceToNat]) ?_
    simp -dsimp (decide := true) (disch := first | omega | simp (decide := true) only [helqb0]) only [helqb1, ↓brun_b, envOf, reduceIte, Nat.reduceEqDiff, Nat.reduceAdd, Nat.reduceSub, Nat.reduceMul, Nat.reduceBEq, Nat.reduceLeDiff, Nat.reduceLT, Int.reduceToNat, rho, hG, h2]
    refine hf _ (Sem.go (k := 1000) ?_)
    simp (decide := true) only [back_mk, backL_in, backL_row, backL_none, backL_nil, Nat.zero_add, Nat.reduceAdd]
    simp -dsimp (decide := true) (disch := first | omega | simp (decide := true) only [helqb0]) only [helqb1, ↓brun_b, envOf, reduceIte, Nat.reduceEqDiff, Nat.reduceAdd, Nat.reduceSub, Nat.reduceMul, Nat.reduceBEq, Nat.reduceLeDiff, Nat.reduceLT, Int.reduceToNat, rho]
    refine Sem.draw' (by kernel_rfl) (.one 0 (.one 1 (.one 2 (.one 3 (.one 4 (.one 5 (.one 6 (.one 7 (.alt 8 (.one 9 (.one 10 (.alt 11 (.one 12 (.one 13 (.alt 14 (.one 15 (.one 16 (.alt 17 (.one 18 (.one 19 (.alt 20 .done .non))) .non))) .non))) .non))) .non))))))))) [0] (by kernel_rfl) (fun G ff hG hf => ?_)
    simp (decide := true) only [helqb2, Nat.reduceAdd] at hG ⊢
    simp -dsimp (decide := true) (disch := first | omega | simp (decide := true) only [helqb0]) only [helqb1, ↓brun_b, envOf, reduceIte, Nat.reduceEqDiff, Nat.reduceAdd, Nat.reduceSub, Nat.reduceMul, Nat.reduceBEq, Nat.reduceLeDiff, Nat.reduceLT, Int.reduceToNat, rho, hG]
    refine OpSem.callw [] cal.f48 (new_win) rfl rfl (by simp -dsimp (decide := true) (disch := first | omega | simp (decide := true) only [helqb0]) only [helqb5, ↓brun_b, envOf, reduceIte, Nat.reduceEqDiff, Nat.reduceAdd, Nat.reduceSub, Nat.reduceMul, Nat.reduceBEq, Nat.reduceLeDiff, Nat.reduceLT, Int.reduceToNat, rho, frz1, ↓reduceIte]) rfl (by simp -dsimp (decide := true) (disch := first | omega | simp (decide := true) only [helqb0]) only [helqb5, ↓brun_b, envOf, reduceIte, Nat.reduceEqDiff, Nat.reduceAdd, Nat.reduceSub, Nat.reduceMul, Nat.reduceBEq, Nat.reduceLeDiff, Nat.reduceLT, Int.reduceToNat, rho, frz1, ↓reduceIte]) (by simp -dsimp (decide := true) (disch := first | omega | simp (decide := true) only [helqb0]) only [helqb4, ↓brun_b, envOf, reduceIte, Nat.reduceEqDiff, Nat.reduceAdd, Nat.reduceSub, Nat.reduceMul, Nat.reduceBEq, Nat.reduceLeDiff, Nat.reduceLT, Int.reduceToNat]) ?_
    simp -dsimp (decide := true) (disch := first | omega | simp (decide := true) only [helqb0]) only [helqb1, ↓brun_b, envOf, reduceIte, Nat.reduceEqDiff, Nat.reduceAdd, Nat.reduceSub, Nat.reduceMul, Nat.reduceBEq, Nat.reduceLeDiff, Nat.reduceLT, Int.reduceToNat, rho, hG]
    refine hf _ ?_
    simp (decide := true) only [back_mk, backL_in, backL_row, backL_none, backL_nil, Nat.zero_add, Nat.reduceAdd]
    refine Lent.sem (Lent.ghostB 7 1 1 35 rfl rfl) (Sem.go (k := 1000) ?_)
    simp -dsimp (decide := true) (disch := first | omega | simp (decide := true) only [helqb0]) only [helqb1, ↓brun_b, envOf, reduceIte, Nat.reduceEqDiff, Nat.reduceAdd, Nat.reduceSub, Nat.reduceMul, Nat.reduceBEq, Nat.reduceLeDiff, Nat.reduceLT, Int.reduceToNat, rho]
    refine Sem.draw' (by kernel_rfl) (.one 0 (.one 1 (.one 2 (.one 3 (.one 4 (.one 5 (.one 6 (.one 7 (.one 8 (.one 9 (.one 10 (.one 11 (.one 12 (.one 13 .done)))))))))))))) [] (by kernel_rfl) (fun G ff hG hf => ?_)
    simp (decide := true) only [helqb2, Nat.reduceAdd] at hG ⊢
    simp -dsimp (decide := true) (disch := first | omega | simp (decide := true) only [helqb0]) only [helqb1, ↓brun_b, envOf, reduceIte, Nat.reduceEqDiff, Nat.reduceAdd, Nat.reduceSub, Nat.reduceMul, Nat.reduceBEq, Nat.reduceLeDiff, Nat.reduceLT, Int.reduceToNat, rho, sBin_agg .eql 23 _ _ _ (I16.cellsEq _ _), sBin_agg .eql 135 _ _ _ (ceq135 _ _ _ _), sBin_agg .neq 23 _ _ _ (I16.cellsEq _ _), sBin_agg .neq 135 _ _ _ (ceq135 _ _ _ _), hG, hc]
    refine And.intro (flat135 _ _ _ _) ?_
    refine hf _ (Sem.go (k := 1000) ?_)
    simp (decide := true) only [back_mk, backL_in, backL_row, backL_none, backL_nil, Nat.zero_add, Nat.reduceAdd]
    simp -dsimp (decide := true) (disch := first | omega | simp (decide := true) only [helqb0]) only [helqb1, ↓brun_b, envOf, reduceIte, Nat.reduceEqDiff, Nat.reduceAdd, Nat.reduceSub, Nat.reduceMul, Nat.reduceBEq, Nat.reduceLeDiff, Nat.reduceLT, Int.reduceToNat, rho]
    refine Sem.draw' (by kernel_rfl) (.one 0 (.one 1 (.one 2 (.one 3 (.one 4 (.one 5 (.one 6 (.one 7 (.one 8 (.one 9 (.one 10 .done))))))))))) [] (by kernel_rfl) (fun G ff hG hf => ?_)
    simp (decide := true) only [helqb2, Nat.reduceAdd] at hG ⊢
    simp -dsimp (decide := true) (disch := first | omega | simp (decide := true) only [helqb0]) only [helqb1, ↓brun_b, envOf, reduceIte, Nat.reduceEqDiff, Nat.reduceAdd, Nat.reduceSub, Nat.reduceMul, Nat.reduceBEq, Nat.reduceLeDiff, Nat.reduceLT, Int.reduceToNat, rho, sBin_agg .eql 23 _ _ _ (I16.cellsEq _ _), sBin_agg .eql 135 _ _ _ (ceq135 _ _ _ _), sBin_agg .neq 23 _ _ _ (I16.cellsEq _ _), sBin_agg .neq 135 _ _ _ (ceq135 _ _ _ _), hG, hc]
    refine And.intro (flat135 _ _ _ _) ?_
    refine hf _ (Sem.go (k := 1000) ?_)
    simp (decide := true) only [back_mk, backL_in, backL_row, backL_none, backL_nil, Nat.zero_add, Nat.reduceAdd]
    simp -dsimp (decide := true) (disch := first | omega | simp (decide := true) only [helqb0]) only [helqb1, ↓brun_b, envOf, reduceIte, Nat.reduceEqDiff, Nat.reduceAdd, Nat.reduceSub, Nat.reduceMul, Nat.reduceBEq, Nat.reduceLeDiff, Nat.reduceLT, Int.reduceToNat, rho]
    refine Sem.draw' (by kernel_rfl) (.one 0 (.one 2 (.alt 1 (.alt 3 (.alt 4 (.alt 5 (.one 6 (.alt 7 .done .non)) .non) .non) .non) (.alt 3 (.alt 1 (.alt 4 (.alt 5 (.one 6 (.alt 7 .done .non)) .non) .non) (.alt 4 (.alt 1 (.alt 5 (.one 6 (.alt 7 .done .non)) .non) .non) .non)) .non)))) [6] (by kernel_rfl) (fun G ff hG hf => ?_)
    simp (decide := true) only [helqb2, Nat.reduceAdd] at hG ⊢
    simp -dsimp (decide := true) (disch := first | omega | simp (decide := true) only [helqb0]) only [helqb1, ↓brun_b, envOf, reduceIte, Nat.reduceEqDiff, Nat.reduceAdd, Nat.reduceSub, Nat.reduceMul, Nat.reduceBEq, Nat.reduceLeDiff, Nat.reduceLT, Int.reduceToNat, rho, hG]
    refine And.intro ?_ ?_
    all_goals
      refine OpSem.callw [0, 7, 8] cal.f136 (hh) rfl rfl (by simp -dsimp (decide := true) (disch := first | omega | simp (decide := true) only [helqb0]) only [helqb5, ↓brun_b, envOf, reduceIte, Nat.reduceEqDiff, Nat.reduceAdd, Nat.reduceSub, Nat.reduceMul, Nat.reduceBEq, Nat.reduceLeDiff, Nat.reduceLT, Int.reduceToNat, rho, frz1, ↓reduceIte]) rfl (by simp -dsimp (decide := true) (disch := first | omega | simp (decide := true) only [helqb0]) only [helqb5, ↓brun_b, envOf, reduceIte, Nat.reduceEqDiff, Nat.reduceAdd, Nat.reduceSub, Nat.reduceMul, Nat.reduceBEq, Nat.reduceLeDiff, Nat.reduceLT, Int.reduceToNat, rho, frz1, ↓reduceIte]) (by simp -dsimp (decide := true) (disch := first | omega | simp (decide := true) only [helqb0]) only [helqb4, ↓brun_b, envOf, reduceIte, Nat.reduceEqDiff, Nat.reduceAdd, Nat.reduceSub, Nat.reduceMul, Nat.reduceBEq, Nat.reduceLeDiff, Nat.reduceLT, Int.reduceToNat]) ?_
      simp -dsimp (decide := true) (disch := first | omega | simp (decide := true) only [helqb0]) only [helqb6, ↓brun_b, envOf, reduceIte, Nat.reduceEqDiff, Nat.reduceAdd, Nat.reduceSub, Nat.reduceMul, Nat.reduceBEq, Nat.reduceLeDiff, Nat.reduceLT, Int.reduceToNat, rho, hG, sapp1_sl el151, Nat.le_refl]
      (repeat' refine And.intro ?_ ?_)
      all_goals
        refine hf _ (Sem.go (k := 1000) ?_)
        simp (decide := true) only [back_mk, backL_in, backL_row, backL_none, backL_nil, Nat.zero_add, Nat.reduceAdd]
        simp -dsimp (decide := true) (disch := first | omega | simp (decide := true) only [helqb0]) only [helqb1, ↓brun_b, envOf, reduceIte, Nat.reduceEqDiff, Nat.reduceAdd, Nat.reduceSub, Nat.reduceMul, Nat.reduceBEq, Nat.reduceLeDiff, Nat.reduceLT, Int.reduceToNat, rho]
        refine SQ.runL (rs := [.cell 6 162]) [0, 1, 2, 7, 8, 10] _ _ rfl (And.intro rfl rfl) (by decide) rfl rfl ?_ ?_
        · simp -dsimp (decide := true) (disch := first | omega | simp (decide := true) only [helqb0]) only [helqb5, ↓brun_b, envOf, reduceIte, Nat.reduceEqDiff, Nat.reduceAdd, Nat.reduceSub, Nat.reduceMul, Nat.reduceBEq, Nat.reduceLeDiff, Nat.reduceLT, Int.reduceToNat, rho, frz1, ↓reduceIte]
          intro e he
          obtain rfl : e = 0 := by omega
          first | exact appF_el _ 0 he (fh_flat _ _ _ _ _) | exact one124 _ 0 he (fh_flat _ _ _ _ _) | (trace_state; fail)
        · simp -dsimp (decide := true) (disch := first | omega | simp (decide := true) only [helqb0]) only [helqb5, ↓brun_b, envOf, reduceIte, Nat.reduceEqDiff, Nat.reduceAdd, Nat.reduceSub, Nat.reduceMul, Nat.reduceBEq, Nat.reduceLeDiff, Nat.reduceLT, Int.reduceToNat, rho, frz1, ↓reduceIte]
end Go.Proofs
namespace Go.Proofs
open Go Go.SL
set_option maxRecDepth 100000
set_option maxHeartbeats 4000000 in
theorem greeted_hi (id pid aid : I16) (up op c : Bool) (mi mn pi pn fi fn ti tn nxi nxn base got : Int) (ts : List (List UInt8))
    (h1 : (decide (fi < pi) || (decide (fi = pi) && decide (fn < pn))) = false) (h0 : (decide (fi = 0) && decide (fn = 0)) = false) (h2 : (decide (pi < fi) || (decide (pi = fi) && decide (pn < fn))) = false)
    (hc : (decide (ti = mi) && decide (tn = mn)) = c) (hco : (c && op) = false) :
    SCall Try.prog 140 [.ptr 0 0 0, .agg (H1.c ⟨.v (.int .i64 fi), .v (.int .i64 fn), .v (.int .i64 ti), .v (.int .i64 tn), aid⟩), .agg [.v (.int .i64 nxi), .v (.int .i64 nxn)]] [some (.row ⟨39, 1, true, 204, fun _ => EC.c ⟨id, .v (.bool up), .v (.bool op), .v (.int .i64 mi), .v (.int .i64 mn), .v (.int .i64 pi), .v (.int .i64 pn), pid, .ptr 1 0 0⟩⟩), some (.row ⟨3, 1, false, 197, fun _ => [.v (.int .i64 base), .slc 2 0 ts.length, .v (.int .i64 got)]⟩), some (.row ⟨1, ts.length, false, 35, trow ts⟩)]
      fun r L => r = .ret (.agg [.v (.bool false), .v (.bool (c && !op)), .v (.slice none 0 0), .v (.bool false), .slc 3 0 1]) ∧
        L = [some (.row ⟨39, 1, true, 204, fun _ => EC.c ⟨id, .v (.bool up), .v (.bool (op || c)), .v (.int .i64 mi), .v (.int .i64 mn), .v (.int .i64 pi), .v (.int .i64 pn), pid, .ptr 1 0 0⟩⟩), none, none, some (.row ⟨95, 1, true, 151, fun _ => FC.c { zF with kind := .v (.int .i64 1), fi := .v (.int .i64 mi), fn := .v (.int .i64 mn), ti := .v (.int .i64 pi), tn := .v (.int .i64 pn), a := id }⟩)] := by
  have hh := hello_calls id pid up (op || c) mi mn pi pn base got ts
  cases op <;> cases c
  all_goals first | (exact absurd hco (by decide)) | skip
  all_goals
    simp only [Bool.false_or, Bool.true_or, Bool.or_false, Bool.or_true, Bool.not_false, Bool.not_true, Bool.and_true, Bool.and_false, Bool.true_and, Bool.false_and] at hh ⊢
    refine SCall.mk (fn := Try.f140) (by kernel_rfl) rfl (Nat.le_of_ble_eq_true (by kernel_rfl)) ?_
    refine Sem.go (k := 1000) ?_
    simp -dsimp (decide := true) (disch := first | omega | simp (decide := true) only [helqb0]) only [helqb1, ↓brun_b, envOf, reduceIte, Nat.reduceEqDiff, Nat.reduceAdd, Nat.reduceSub, Nat.reduceMul, Nat.reduceBEq, Nat.reduceLeDiff, Nat.reduceLT, Int.reduceToNat, rho]
    refine Sem.draw' (by kernel_rfl) (.one 0 (.one 1 (.one 2 (.one 3 (.one 4 (.one 5 (.alt 6 (.one 7 (.one 8 (.one 9 (.one 10 (.one 11 (.one 12 .done)))))) .non))))))) [] (by kernel_rfl) (fun G ff hG hf => ?_)
    simp (decide := true) only [helqb2, Nat.reduceAdd] at hG ⊢
    simp -dsimp (decide := true) (disch := first | omega | simp (decide := true) only [helqb0]) only [helqb1, ↓brun_b, envOf, reduceIte, Nat.reduceEqDiff, Nat.reduceAdd, Nat.reduceSub, Nat.reduceMul, Nat.reduceBEq, Nat.reduceLeDiff, Nat.reduceLT, Int.reduceToNat, rho, hG]
    refine OpSem.callq cal.f171 (numLess_calls fi fn pi pn) rfl rfl rfl (by simp only [bflat_a, helqb3]) (by simp only [bflat_a, helqb3]) (by simp -dsimp (decide := true) (disch := first | omega | simp (decide := true) only [helqb0]) only [helqb4, ↓brun_b, envOf, reduceIte, Nat.reduceEqDiff, Nat.reduceAdd, Nat.reduceSub, Nat.reduceMul, Nat.reduceBEq, Nat.reduceLeDiff, Nat.reduceLT, Int.reduceToNat]) ?_
    simp -dsimp (decide := true) (disch := first | omega | simp (decide := true) only [helqb0]) only [helqb1, ↓brun_b, envOf, reduceIte, Nat.reduceEqDiff, Nat.reduceAdd, Nat.reduceSub, Nat.reduceMul, Nat.reduceBEq, Nat.reduceLeDiff, Nat.reduceLT, Int.reduceToNat, rho, sBin_agg .eql 23 _ _ _ (I16.cellsEq _ _), sBin_agg .eql 135 _ _ _ (ceq135 _ _ _ _), sBin_agg .neq 23 _ _ _ (I16.cellsEq _ _), sBin_agg .neq 135 _ _ _ (ceq135 _ _ _ _), hG, h1, h0]
    refine And.intro (flat135 _ _ _ _) ?_
    refine hf _ (Sem.go (k := 1000) ?_)
    simp (decide := true) only [back_mk, backL_in, backL_row, backL_none, backL_nil, Nat.zero_add, Nat.reduceAdd]
    simp -dsimp (decide := true) (disch := first | omega | simp (decide := true) only [helqb0]) only [helqb1, ↓brun_b, envOf, reduceIte, Nat.reduceEqDiff, Nat.reduceAdd, Nat.reduceSub, Nat.reduceMul, Nat.reduceBEq, Nat.reduceLeDiff, Nat.reduceLT, Int.reduceToNat, rho]
    refine Sem.draw' (by kernel_rfl) (.one 0 (.one 1 (.one 2 (.one 3 (.one 4 (.one 5 (.alt 6 .done .non))))))) [] (by kernel_rfl) (fun G ff hG hf => ?_)
    simp (decide := true) only [helqb2, Nat.reduceAdd] at hG ⊢
    simp -dsimp (decide := true) (disch := first | omega | simp (decide := true) only [helqb0]) only [helqb1, ↓brun_b, envOf, reduceIte, Nat.reduceEqDiff, Nat.reduceAdd, Nat.reduceSub, Nat.reduceMul, Nat.reduceBEq, Nat.reduceLeDiff, Nat.reduceLT, Int.reduceToNat, rho, hG]
    refine OpSem.callq cal.f171 (numLess_calls pi pn fi fn) rfl rfl rfl (by simp only [bflat_a, helqb3]) (by simp only [bflat_a, helqb3]) (by simp -dsimp (decide := true) (disch := first | omega | simp (decide := true) only [helqb0]) only [helqb4, ↓brun_b, envOf, reduceIte, Nat.reduceEqDiff, Nat.reduceAdd, Nat.reduceSub, Nat.reduceMul, Nat.reduceBEq, Nat.reduceLeDiff, Nat.reduceLT, Int.reduceToNat]) ?_
    simp -dsimp (decide := true) (disch := first | omega | simp (decide := true) only [helqb0]) only [helqb1, ↓brun_b, envOf, reduceIte, Nat.reduceEqDiff, Nat.reduceAdd, Nat.reduceSub, Nat.reduceMul, Nat.reduceBEq, Nat.reduceLeDiff, Nat.reduceLT, Int.reduceToNat, rho, hG, h2]
    refine hf _ (Sem.go (k := 1000) ?_)
    simp (decide := true) only [back_mk, backL_in, backL_row, backL_none, backL_nil, Nat.zero_add, Nat.reduceAdd]
    simp -dsimp (decide := true) (disch := first | omega | simp (decide := true) only [helqb0]) only [helqb1, ↓brun_b, envOf, reduceIte, Nat.reduceEqDiff, Nat.reduceAdd, Nat.reduceSub, Nat.reduceMul, Nat.reduceBEq, Nat.reduceLeDiff, Nat.reduceLT, Int.reduceToNat, rho]
    refine Sem.draw' (by kernel_rfl) (.one 0 (.one 1 (.one 2 (.one 3 (.one 4 (.one 5 (.one 6 (.one 7 (.one 8 (.one 9 (.one 10 (.one 11 (.one 12 (.one 13 .done)))))))))))))) [] (by kernel_rfl) (fun G ff hG hf => ?_)
    simp (decide := true) only [helqb2, Nat.reduceAdd] at hG ⊢
    simp -dsimp (decide := true) (disch := first | omega | simp (decide := true) only [helqb0]) only [helqb1, ↓brun_b, envOf, reduceIte, Nat.reduceEqDiff, Nat.reduceAdd, Nat.reduceSub, Nat.reduceMul, Nat.reduceBEq, Nat.reduceLeDiff, Nat.reduceLT, Int.reduceToNat, rho, sBin_agg .eql 23 _ _ _ (I16.cellsEq _ _), sBin_agg .eql 135 _ _ _ (ceq135 _ _ _ _), sBin_agg .neq 23 _ _ _ (I16.cellsEq _ _), sBin_agg .neq 135 _ _ _ (ceq135 _ _ _ _), hG, hc]
    refine And.intro (flat135 _ _ _ _) ?_
    refine hf _ (Sem.go (k := 1000) ?_)
    simp (decide := true) only [back_mk, backL_in, backL_row, backL_none, backL_nil, Nat.zero_add, Nat.reduceAdd]
    simp -dsimp (decide := true) (disch := first | omega | simp (decide := true) only [helqb0]) only [helqb1, ↓brun_b, envOf, reduceIte, Nat.reduceEqDiff, Nat.reduceAdd, Nat.reduceSub, Nat.reduceMul, Nat.reduceBEq, Nat.reduceLeDiff, Nat.reduceLT, Int.reduceToNat, rho]
    refine Sem.draw' (by kernel_rfl) (.one 0 (.one 1 (.one 2 (.one 3 (.one 4 (.one 5 (.one 6 (.one 7 (.one 8 (.one 9 (.one 10 .done))))))))))) [] (by kernel_rfl) (fun G ff hG hf => ?_)
    simp (decide := true) only [helqb2, Nat.reduceAdd] at hG ⊢
    simp -dsimp (decide := true) (disch := first | omega | simp (decide := true) only [helqb0]) only [helqb1, ↓brun_b, envOf, reduceIte, Nat.reduceEqDiff, Nat.reduceAdd, Nat.reduceSub, Nat.reduceMul, Nat.reduceBEq, Nat.reduceLeDiff, Nat.reduceLT, Int.reduceToNat, rho, sBin_agg .eql 23 _ _ _ (I16.cellsEq _ _), sBin_agg .eql 135 _ _ _ (ceq135 _ _ _ _), sBin_agg .neq 23 _ _ _ (I16.cellsEq _ _), sBin_agg .neq 135 _ _ _ (ceq135 _ _ _ _), hG, hc]
    refine And.intro (flat135 _ _ _ _) ?_
    refine hf _ (Sem.go (k := 1000) ?_)
    simp (decide := true) only [back_mk, backL_in, backL_row, backL_none, backL_nil, Nat.zero_add, Nat.reduceAdd]
    simp -dsimp (decide := true) (disch := first | omega | simp (decide := true) only [helqb0]) only [helqb1, ↓brun_b, envOf, reduceIte, Nat.reduceEqDiff, Nat.reduceAdd, Nat.reduceSub, Nat.reduceMul, Nat.reduceBEq, Nat.reduceLeDiff, Nat.reduceLT, Int.reduceToNat, rho]
    refine Sem.draw' (by kernel_rfl) (.one 0 (.one 2 (.alt 1 (.alt 3 (.alt 4 (.alt 5 (.one 6 (.alt 7 .done .non)) .non) .non) .non) (.alt 3 (.alt 1 (.alt 4 (.alt 5 (.one 6 (.alt 7 .done .non)) .non) .non) (.alt 4 (.alt 1 (.alt 5 (.one 6 (.alt 7 .done .non)) .non) .non) .non)) .non)))) [6] (by kernel_rfl) (fun G ff hG hf => ?_)
    simp (decide := true) only [helqb2, Nat.reduceAdd] at hG ⊢
    simp -dsimp (decide := true) (disch := first | omega | simp (decide := true) only [helqb0]) only [helqb1, ↓brun_b, envOf, reduceIte, Nat.reduceEqDiff, Nat.reduceAdd, Nat.reduceSub, Nat.reduceMul, Nat.reduceBEq, Nat.reduceLeDiff, Nat.reduceLT, Int.reduceToNat, rho, hG]
    refine And.intro ?_ ?_
    all_goals
      refine OpSem.callw [0, 1, 2] cal.f136 (hh) rfl rfl (by simp -dsimp (decide := true) (disch := first | omega | simp (decide := true) only [helqb0]) only [helqb5, ↓brun_b, envOf, reduceIte, Nat.reduceEqDiff, Nat.reduceAdd, Nat.reduceSub, Nat.reduceMul, Nat.reduceBEq, Nat.reduceLeDiff, Nat.reduceLT, Int.reduceToNat, rho, frz1, ↓reduceIte]) rfl (by simp -dsimp (decide := true) (disch := first | omega | simp (decide := true) only [helqb0]) only [helqb5, ↓brun_b, envOf, reduceIte, Nat.reduceEqDiff, Nat.reduceAdd, Nat.reduceSub, Nat.reduceMul, Nat.reduceBEq, Nat.reduceLeDiff, Nat.reduceLT, Int.reduceToNat, rho, frz1, ↓reduceIte]) (by simp -dsimp (decide := true) (disch := first | omega | simp (decide := true) only [helqb0]) only [helqb4, ↓brun_b, envOf, reduceIte, Nat.reduceEqDiff, Nat.reduceAdd, Nat.reduceSub, Nat.reduceMul, Nat.reduceBEq, Nat.reduceLeDiff, Nat.reduceLT, Int.reduceToNat]) ?_
      simp -dsimp (decide := true) (disch := first | omega | simp (decide := true) only [helqb0]) only [helqb6, ↓brun_b, envOf, reduceIte, Nat.reduceEqDiff, Nat.reduceAdd, Nat.reduceSub, Nat.reduceMul, Nat.reduceBEq, Nat.reduceLeDiff, Nat.reduceLT, Int.reduceToNat, rho, hG, sapp1_sl el151, Nat.le_refl]
      (repeat' refine And.intro ?_ ?_)
      all_goals
        refine hf _ (Sem.go (k := 1000) ?_)
        simp (decide := true) only [back_mk, backL_in, backL_row, backL_none, backL_nil, Nat.zero_add, Nat.reduceAdd]
        simp -dsimp (decide := true) (disch := first | omega | simp (decide := true) only [helqb0]) only [helqb1, ↓brun_b, envOf, reduceIte, Nat.reduceEqDiff, Nat.reduceAdd, Nat.reduceSub, Nat.reduceMul, Nat.reduceBEq, Nat.reduceLeDiff, Nat.reduceLT, Int.reduceToNat, rho]
        refine SQ.runL (rs := [.cell 6 162]) [0, 1, 2, 8] _ _ rfl (And.intro rfl rfl) (by decide) rfl rfl ?_ ?_
        · simp -dsimp (decide := true) (disch := first | omega | simp (decide := true) only [helqb0]) only [helqb5, ↓brun_b, envOf, reduceIte, Nat.reduceEqDiff, Nat.reduceAdd, Nat.reduceSub, Nat.reduceMul, Nat.reduceBEq, Nat.reduceLeDiff, Nat.reduceLT, Int.reduceToNat, rho, frz1, ↓reduceIte]
          intro e he
          obtain rfl : e = 0 := by omega
          first | exact appF_el _ 0 he (fh_flat _ _ _ _ _) | exact one124 _ 0 he (fh_flat _ _ _ _ _)
        · simp -dsimp (decide := true) (disch := first | omega | simp (decide := true) only [helqb0]) only [helqb5, ↓brun_b, envOf, reduceIte, Nat.reduceEqDiff, Nat.reduceAdd, Nat.reduceSub, Nat.reduceMul, Nat.reduceBEq, Nat.reduceLeDiff, Nat.reduceLT, Int.reduceToNat, rho, frz1, ↓reduceIte]
end Go.Proofs
namespace Go.Proofs
open Go Go.SL
set_option maxRecDepth 100000
theorem frm_flat (kind pn n fi fn ti tn vn op ttl toA : Value) (who a b key vwho : I16) (tr : List Int) (is : List I16) (val tx : List UInt8) : SV.flatL (FC.c ⟨.v kind, who, .v pn, .v toA, a, b, .v n, .v fi, .v fn, .v ti, .v tn, .rsl 1 (lrows tr), .rsl 16 (idrs is), key, .v vn, vwho, bsl val, .v op, .v ttl, bsl tx⟩) = true := by
  simp [FC.flat_eq, flat_v, flat_rsl, lrows_flat, idrs_flat, bsl, flatR_brows]
def helqb7 :=
  (And.intro (And.intro helqc0 (And.intro helqc1 helqc2)) (And.intro (And.intro @fh_flat @fk_flat) (And.intro @frm_flat @zF.eq_1)))
def helqc9 :=
  (And.intro (And.intro @FC.at_kind (And.intro @FC.at_n @FC.at_op)) (And.intro (And.intro @FC.at_tx @FC.part_a) (And.intro @FC.part_from @FC.part_to)))
def helqc10 :=
  (And.intro (And.intro (And.intro @tab.f210x0 @tab.f210x1) (And.intro @tab.f210x2 (And.intro @tab.f210x3 @tab.f218x0))) (And.intro (And.intro @tab.f218x1 (And.intro @tab.f218x2 @tab.s210)) (And.intro @tab.s218 (And.intro @tab.u210 @tab.u218))))
def helqb8 :=
  (And.intro (And.intro (And.intro helqc3 helqc0) (And.intro helqc9 helqc4)) (And.intro (And.intro helqc6 helqc7) (And.intro helqc10 (And.intro @fh_flat @fk_flat))))
def helqb9 :=
  (And.intro (And.intro (And.intro helqc3 (And.intro helqc0 helqc4)) (And.intro helqc6 (And.intro helqc7 helqc10))) (And.intro (And.intro @bwk_a (And.intro @eq_self.{1} @fh_flat)) (And.intro (And.intro @fk_flat @forall_const.{1}) (And.intro @implies_true.{0} @implies_true.{1}))))
theorem of_hello (F : Frm) (hk : F.kind = 1) : Pure Try.prog 119 [.agg F.fc.c] (.tup [.ifc 214 (.agg (H1.c ⟨.v (.int .i64 F.fi), .v (.int .i64 F.fn), .v (.int .i64 F.ti), .v (.int .i64 F.tn), F.a⟩)), .v (.bool true)]) := by
  refine SCall.mk (fn := Try.f119) (by kernel_rfl) rfl (Nat.le_of_ble_eq_true (by kernel_rfl)) ?_
  refine Sem.go (k := 1000) ?_
  simp -dsimp (decide := true) (disch := first | omega | simp (decide := true) only [helqb7]) only [helqb8, ↓brun_b, envOf, reduceIte, Nat.reduceEqDiff, Nat.reduceAdd, Nat.reduceSub, Nat.reduceMul, Nat.reduceBEq, Nat.reduceLeDiff, Nat.reduceLT, Int.reduceToNat, rho, Frm.fc, hk]
  refine SQ.answer (rs := [.tmp 2, .tmp 3]) rfl rfl ?_
  simp -dsimp (decide := true) (disch := first | omega | simp (decide := true) only [helqb7]) only [helqb9, ↓brun_b, envOf, reduceIte, Nat.reduceEqDiff, Nat.reduceAdd, Nat.reduceSub, Nat.reduceMul, Nat.reduceBEq, Nat.reduceLeDiff, Nat.reduceLT, Int.reduceToNat, rho, frz1, ↓reduceIte]
def helqb10 :=
  (And.intro (And.intro (And.intro helqc3 (And.intro helqc0 helqc9)) (And.intro (And.intro helqc4 helqc5) (And.intro helqc6 helqc7))) (And.intro (And.intro helqc8 (And.intro helqc10 @fh_flat)) (And.intro (And.intro @fk_flat @tab.a121) (And.intro @tab.s121 @tab.u121))))
def helqb11 :=
  (And.intro (And.intro helqc1 @fh_flat) (And.intro @fk_flat @frm_flat))
def helqb12 :=
  (And.intro (And.intro (And.intro helqc4 helqc5) (And.intro helqc6 helqc7)) (And.intro (And.intro helqc8 helqc10) (And.intro @tab.a121 (And.intro @tab.s121 @tab.u121))))
def helqb13 :=
  (And.intro (And.intro (And.intro helqc3 (And.intro helqc0 helqc9)) (And.intro (And.intro helqc4 helqc5) (And.intro helqc6 helqc7))) (And.intro (And.intro (And.intro helqc8 helqc10) (And.intro @fh_flat @fk_flat)) (And.intro (And.intro @hit214 @tab.a121) (And.intro @tab.s121 @tab.u121))))
def helqb14 :=
  (And.intro (And.intro (And.intro (And.intro helqc3 helqc0) (And.intro helqc4 helqc5)) (And.intro (And.intro helqc6 helqc7) (And.intro helqc8 (And.intro helqc10 @bwk_a)))) (And.intro (And.intro (And.intro @eq_self.{1} @fh_flat) (And.intro @fk_flat @forall_const.{1})) (And.intro (And.intro @implies_true.{0} @implies_true.{1}) (And.intro @tab.a121 (And.intro @tab.s121 @tab.u121)))))
def helqb15 :=
  (And.intro (And.intro (And.intro (And.intro helqc3 helqc0) (And.intro helqc9 helqc4)) (And.intro (And.intro helqc5 helqc6) (And.intro helqc7 (And.intro helqc8 helqc10)))) (And.intro (And.intro (And.intro @bwk_a @eq_self.{1}) (And.intro @fh_flat (And.intro @fk_flat @forall_const.{1}))) (And.intro (And.intro @implies_true.{0} @implies_true.{1}) (And.intro @tab.a121 (And.intro @tab.s121 @tab.u121)))))
theorem hear_new (F : Frm) (hk : F.kind = 1) (id pid : I16) (op o2 : Bool) (mi mn pi pn nxi nxn base got m2 n2 : Int) (ts : List (List UInt8))
    (h1 : (decide (F.fi < pi) || (decide (F.fi = pi) && decide (F.fn < pn))) = false) (h0 : (decide (F.fi = 0) && decide (F.fn = 0)) = false) (h2 : (decide (pi < F.fi) || (decide (pi = F.fi) && decide (pn < F.fn))) = true)
    (hm : m2 = bif op then nxi else mi) (hn : n2 = bif op then nxn else mn) (hc : (decide (F.ti = m2) && decide (F.tn = n2)) = o2) :
    SCall Try.prog 106 [.ptr 0 0 0, .agg F.fc.c, .agg [.v (.int .i64 nxi), .v (.int .i64 nxn)]] [some (.row ⟨39, 1, true, 204, fun _ => EC.c ⟨id, .v (.bool true), .v (.bool op), .v (.int .i64 mi), .v (.int .i64 mn), .v (.int .i64 pi), .v (.int .i64 pn), pid, .ptr 1 0 0⟩⟩), some (.row ⟨3, 1, false, 197, fun _ => [.v (.int .i64 base), .slc 2 0 ts.length, .v (.int .i64 got)]⟩), some (.row ⟨1, ts.length, false, 35, trow ts⟩)]
      fun r L => r = .ret (.agg [.v (.bool op), .v (.bool o2), .v (.slice none 0 0), .v (.bool false), .slc 5 0 1]) ∧
        L = [some (.row ⟨39, 1, true, 204, fun _ => EC.c ⟨id, .v (.bool true), .v (.bool o2), .v (.int .i64 m2), .v (.int .i64 n2), .v (.int .i64 F.fi), .v (.int .i64 F.fn), F.a, .ptr 3 0 0⟩⟩), none, none, some (.row ⟨3, 1, true, 197, fun _ => [.v (.int .i64 1), .slc 4 0 0, .v (.int .i64 0)]⟩), some (.row ⟨1, 0, true, 35, trow []⟩),
          some (.row ⟨95, 1, true, 151, fun _ => FC.c { zF with kind := .v (.int .i64 1), fi := .v (.int .i64 m2), fn := .v (.int .i64 n2), ti := .v (.int .i64 F.fi), tn := .v (.int .i64 F.fn), a := id }⟩)] := by
  have hg := greeted_new id pid F.a true op o2 mi mn pi pn F.fi F.fn F.ti F.tn nxi nxn base got m2 n2 ts h1 h0 h2 hm hn hc
  have ho := of_hello F hk
  simp only [Frm.fc] at ho ⊢
  refine SCall.mk (fn := Try.f106) (by kernel_rfl) rfl (Nat.le_of_ble_eq_true (by kernel_rfl)) ?_
  refine Sem.go (k := 1000) ?_
  simp -dsimp (decide := true) (disch := first | omega | simp (decide := true) only [helqb7]) only [helqb10, ↓brun_b, envOf, reduceIte, Nat.reduceEqDiff, Nat.reduceAdd, Nat.reduceSub, Nat.reduceMul, Nat.reduceBEq, Nat.reduceLeDiff, Nat.reduceLT, Int.reduceToNat, rho]
  refine SemOps.callq (k := 1000) cal.f119 (ho) rfl rfl rfl rfl (by simp only [bflat_a, helqb11]) (by simp only [bflat_a, helqb11]) (by simp -dsimp (decide := true) (disch := first | omega | simp (decide := true) only [helqb7]) only [helqb12, ↓brun_b, envOf, reduceIte, Nat.reduceEqDiff, Nat.reduceAdd, Nat.reduceSub, Nat.reduceMul, Nat.reduceBEq, Nat.reduceLeDiff, Nat.reduceLT, Int.reduceToNat]) ?_
  simp -dsimp (decide := true) (disch := first | omega | simp (decide := true) only [helqb7]) only [helqb13, ↓brun_b, envOf, reduceIte, Nat.reduceEqDiff, Nat.reduceAdd, Nat.reduceSub, Nat.reduceMul, Nat.reduceBEq, Nat.reduceLeDiff, Nat.reduceLT, Int.reduceToNat, rho]
  refine SemOps.callw [0, 1, 2] cal.f140 (hg) rfl rfl rfl (by simp -dsimp (decide := true) (disch := first | omega | simp (decide := true) only [helqb7]) only [helqb14, ↓brun_b, envOf, reduceIte, Nat.reduceEqDiff, Nat.reduceAdd, Nat.reduceSub, Nat.reduceMul, Nat.reduceBEq, Nat.reduceLeDiff, Nat.reduceLT, Int.reduceToNat, rho, frz1, ↓reduceIte]) rfl (by simp -dsimp (decide := true) (disch := first | omega | simp (decide := true) only [helqb7]) only [helqb14, ↓brun_b, envOf, reduceIte, Nat.reduceEqDiff, Nat.reduceAdd, Nat.reduceSub, Nat.reduceMul, Nat.reduceBEq, Nat.reduceLeDiff, Nat.reduceLT, Int.reduceToNat, rho, frz1, ↓reduceIte]) (by simp -dsimp (decide := true) (disch := first | omega | simp (decide := true) only [helqb7]) only [helqb12, ↓brun_b, envOf, reduceIte, Nat.reduceEqDiff, Nat.reduceAdd, Nat.reduceSub, Nat.reduceMul, Nat.reduceBEq, Nat.reduceLeDiff, Nat.reduceLT, Int.reduceToNat]) ?_
  refine SemOps.go (k := 1000) ?_
  simp -dsimp (decide := true) (disch := first | omega | simp (decide := true) only [helqb7]) only [helqb10, ↓brun_b, envOf, reduceIte, Nat.reduceEqDiff, Nat.reduceAdd, Nat.reduceSub, Nat.reduceMul, Nat.reduceBEq, Nat.reduceLeDiff, Nat.reduceLT, Int.reduceToNat, rho]
  refine SQ.runL (rs := [.cell 6 162]) [0, 1, 2, 7, 8, 9] _ _ rfl (And.intro rfl rfl) (by decide) rfl rfl ?_ ?_
  · simp -dsimp (decide := true) (disch := first | omega | simp (decide := true) only [helqb7]) only [helqb15, ↓brun_b, envOf, reduceIte, Nat.reduceEqDiff, Nat.reduceAdd, Nat.reduceSub, Nat.reduceMul, Nat.reduceBEq, Nat.reduceLeDiff, Nat.reduceLT, Int.reduceToNat, rho, frz1, ↓reduceIte]
  · simp -dsimp (decide := true) (disch := first | omega | simp (decide := true) only [helqb7]) only [helqb15, ↓brun_b, envOf, reduceIte, Nat.reduceEqDiff, Nat.reduceAdd, Nat.reduceSub, Nat.reduceMul, Nat.reduceBEq, Nat.reduceLeDiff, Nat.reduceLT, Int.reduceToNat, rho, frz1, ↓reduceIte]
theorem hear_hi (F : Frm) (hk : F.kind = 1) (id pid : I16) (op c : Bool) (mi mn pi pn nxi nxn base got : Int) (ts : List (List UInt8))
    (h1 : (decide (F.fi < pi) || (decide (F.fi = pi) && decide (F.fn < pn))) = false) (h0 : (decide (F.fi = 0) && decide (F.fn = 0)) = false) (h2 : (decide (pi < F.fi) || (decide (pi = F.fi) && decide (pn < F.fn))) = false)
    (hc : (decide (F.ti = mi) && decide (F.tn = mn)) = c) (hco : (c && op) = false) :
    SCall Try.prog 106 [.ptr 0 0 0, .agg F.fc.c, .agg [.v (.int .i64 nxi), .v (.int .i64 nxn)]] [some (.row ⟨39, 1, true, 204, fun _ => EC.c ⟨id, .v (.bool true), .v (.bool op), .v (.int .i64 mi), .v (.int .i64 mn), .v (.int .i64 pi), .v (.int .i64 pn), pid, .ptr 1 0 0⟩⟩), some (.row ⟨3, 1, false, 197, fun _ => [.v (.int .i64 base), .slc 2 0 ts.length, .v (.int .i64 got)]⟩), some (.row ⟨1, ts.length, false, 35, trow ts⟩)]
      fun r L => r = .ret (.agg [.v (.bool false), .v (.bool (c && !op)), .v (.slice none 0 0), .v (.bool false), .slc 3 0 1]) ∧
        L = [some (.row ⟨39, 1, true, 204, fun _ => EC.c ⟨id, .v (.bool true), .v (.bool (op || c)), .v (.int .i64 mi), .v (.int .i64 mn), .v (.int .i64 pi), .v (.int .i64 pn), pid, .ptr 1 0 0⟩⟩), none, none, some (.row ⟨95, 1, true, 151, fun _ => FC.c { zF with kind := .v (.int .i64 1), fi := .v (.int .i64 mi), fn := .v (.int .i64 mn), ti := .v (.int .i64 pi), tn := .v (.int .i64 pn), a := id }⟩)] := by
  have hg := greeted_hi id pid F.a true op c mi mn pi pn F.fi F.fn F.ti F.tn nxi nxn base got ts h1 h0 h2 hc hco
  have ho := of_hello F hk
  simp only [Frm.fc] at ho ⊢
  refine SCall.mk (fn := Try.f106) (by kernel_rfl) rfl (Nat.le_of_ble_eq_true (by kernel_rfl)) ?_
  refine Sem.go (k := 1000) ?_
  simp -dsimp (decide := true) (disch := first | omega | simp (decide := true) only [helqb7]) only [helqb10, ↓brun_b, envOf, reduceIte, Nat.reduceEqDiff, Nat.reduceAdd, Nat.reduceSub, Nat.reduceMul, Nat.reduceBEq, Nat.reduceLeDiff, Nat.reduceLT, Int.reduceToNat, rho]
  refine SemOps.callq (k := 1000) cal.f119 (ho) rfl rfl rfl rfl (by simp only [bflat_a, helqb11]) (by simp only [bflat_a, helqb11]) (by simp -dsimp (decide := true) (disch := first | omega | simp (decide := true) only [helqb7]) only [helqb12, ↓brun_b, envOf, reduceIte, Nat.reduceEqDiff, Nat.reduceAdd, Nat.reduceSub, Nat.reduceMul, Nat.reduceBEq, Nat.reduceLeDiff, Nat.reduceLT, Int.reduceToNat]) ?_
  simp -dsimp (decide := true) (disch := first | omega | simp (decide := true) only [helqb7]) only [helqb13, ↓brun_b, envOf, reduceIte, Nat.reduceEqDiff, Nat.reduceAdd, Nat.reduceSub, Nat.reduceMul, Nat.reduceBEq, Nat.reduceLeDiff, Nat.reduceLT, Int.reduceToNat, rho]
  refine SemOps.callw [0, 1, 2] cal.f140 (hg) rfl rfl rfl (by simp -dsimp (decide := true) (disch := first | omega | simp (decide := true) only [helqb7]) only [helqb14, ↓brun_b, envOf, reduceIte, Nat.reduceEqDiff, Nat.reduceAdd, Nat.reduceSub, Nat.reduceMul, Nat.reduceBEq, Nat.reduceLeDiff, Nat.reduceLT, Int.reduceToNat, rho, frz1, ↓reduceIte]) rfl (by simp -dsimp (decide := true) (disch := first | omega | simp (decide := true) only [helqb7]) only [helqb14, ↓brun_b, envOf, reduceIte, Nat.reduceEqDiff, Nat.reduceAdd, Nat.reduceSub, Nat.reduceMul, Nat.reduceBEq, Nat.reduceLeDiff, Nat.reduceLT, Int.reduceToNat, rho, frz1, ↓reduceIte]) (by simp -dsimp (decide := true) (disch := first | omega | simp (decide := true) only [helqb7]) only [helqb12, ↓brun_b, envOf, reduceIte, Nat.reduceEqDiff, Nat.reduceAdd, Nat.reduceSub, Nat.reduceMul, Nat.reduceBEq, Nat.reduceLeDiff, Nat.reduceLT, Int.reduceToNat]) ?_
  refine SemOps.go (k := 1000) ?_
  simp -dsimp (decide := true) (disch := first | omega | simp (decide := true) only [helqb7]) only [helqb10, ↓brun_b, envOf, reduceIte, Nat.reduceEqDiff, Nat.reduceAdd, Nat.reduceSub, Nat.reduceMul, Nat.reduceBEq, Nat.reduceLeDiff, Nat.reduceLT, Int.reduceToNat, rho]
  refine SQ.runL (rs := [.cell 6 162]) [0, 1, 2, 7] _ _ rfl (And.intro rfl rfl) (by decide) rfl rfl ?_ ?_
  · simp -dsimp (decide := true) (disch := first | omega | simp (decide := true) only [helqb7]) only [helqb15, ↓brun_b, envOf, reduceIte, Nat.reduceEqDiff, Nat.reduceAdd, Nat.reduceSub, Nat.reduceMul, Nat.reduceBEq, Nat.reduceLeDiff, Nat.reduceLT, Int.reduceToNat, rho, frz1, ↓reduceIte]
  · simp -dsimp (decide := true) (disch := first | omega | simp (decide := true) only [helqb7]) only [helqb15, ↓brun_b, envOf, reduceIte, Nat.reduceEqDiff, Nat.reduceAdd, Nat.reduceSub, Nat.reduceMul, Nat.reduceBEq, Nat.reduceLeDiff, Nat.reduceLT, Int.reduceToNat, rho, frz1, ↓reduceIte]
theorem i16_set (a b : I16) : splice a.c 0 b.c = b.c := splice_all _ _ (by rw [I16.c_length, I16.c_length])
def helqb16 :=
  (And.intro (And.intro (And.intro helqc3 helqc0) (And.intro helqc4 (And.intro helqc8 @fh_flat))) (And.intro (And.intro @fk_flat @i16_set) (And.intro @tab.a121 (And.intro @tab.s121 @tab.u121))))
def helqb17 :=
  (And.intro (And.intro (And.intro helqc3 (And.intro helqc0 helqc4)) (And.intro (And.intro helqc8 @bwk_a) (And.intro @eq_self.{1} @fh_flat))) (And.intro (And.intro (And.intro @fk_flat @forall_const.{1}) (And.intro @i16_set @implies_true.{0})) (And.intro (And.intro @implies_true.{1} @tab.a121) (And.intro @tab.s121 @tab.u121))))
theorem open_calls (id pid : I16) (up op : Bool) (mi mn pi pn base got : Int) (ts : List (List UInt8)) :
    SCall Try.prog 110 [.ptr 0 0 0] [some (.row ⟨39, 1, false, 204, fun _ => EC.c ⟨id, .v (.bool up), .v (.bool op), .v (.int .i64 mi), .v (.int .i64 mn), .v (.int .i64 pi), .v (.int .i64 pn), pid, .ptr 1 0 0⟩⟩), some (.row ⟨3, 1, false, 197, fun _ => [.v (.int .i64 base),   .slc 2 0 ts.length, .v (.int .i64 got)]⟩), some (.row ⟨1, ts.length, false, 35, trow ts⟩)]
      fun r L => r = .ret (.tup [.agg (bif op then pid else I16.zero).c, .v (.bool op)]) ∧ L = [none, none, none] := by
  cases op
  all_goals
    refine SCall.mk (fn := Try.f110) (by kernel_rfl) rfl (Nat.le_of_ble_eq_true (by kernel_rfl)) ?_
    refine Sem.go (k := 1000) ?_
    simp -dsimp (decide := true) (disch := first | omega | simp (decide := true) only [helqb7]) only [helqb16, ↓brun_b, envOf, reduceIte, Nat.reduceEqDiff, Nat.reduceAdd, Nat.reduceSub, Nat.reduceMul, Nat.reduceBEq, Nat.reduceLeDiff, Nat.reduceLT, Int.reduceToNat, rho]
    refine SQ.runL (rs := [.cell 2 23, .tmp 3]) [0, 1, 2] _ _ rfl (And.intro rfl rfl) (by decide) rfl rfl ?_ ?_
    · simp -dsimp (decide := true) (disch := first | omega | simp (decide := true) only [helqb7]) only [helqb17, ↓brun_b, envOf, reduceIte, Nat.reduceEqDiff, Nat.reduceAdd, Nat.reduceSub, Nat.reduceMul, Nat.reduceBEq, Nat.reduceLeDiff, Nat.reduceLT, Int.reduceToNat, rho, frz1, ↓reduceIte]
    · simp -dsimp (decide := true) (disch := first | omega | simp (decide := true) only [helqb7]) only [helqb17, ↓brun_b, envOf, reduceIte, Nat.reduceEqDiff, Nat.reduceAdd, Nat.reduceSub, Nat.reduceMul, Nat.reduceBEq, Nat.reduceLeDiff, Nat.reduceLT, Int.reduceToNat, rho, frz1, ↓reduceIte]
end Go.Proofs
namespace Go.Proofs
open Go Go.SL
set_option maxRecDepth 100000
def i1 : I16 := nth 1 (by decide)
def i2 : I16 := nth 2 (by decide)
theorem build23_1 : sBuild Try.prog 23 [(15, .v (.int .u8 1))] = some ⟨.agg i1.c, {}, True⟩ := build23 1 (by decide)
theorem build23_2 : sBuild Try.prog 23 [(15, .v (.int .u8 2))] = some ⟨.agg i2.c, {}, True⟩ := build23 2 (by decide)
theorem build135 (a b : Int) : sBuild Try.prog 135 [(0, .v (.int .i64 a)), (1, .v (.int .i64 b))] = some ⟨.agg [.v (.int .i64 a), .v (.int .i64 b)], {}, True⟩ := by
  rw [sBuild_eq, tab.z135, tab.l135]; rfl
def hF (mi mn pi pn : Int) (id : I16) : Frm := ⟨1, I16.zero, 0, false, id, I16.zero, 0, mi, mn, pi, pn, [], [], I16.zero, 0, I16.zero, [], 0, 0, []⟩
theorem hF_c (mi mn pi pn : Int) (id : I16) : (hF mi mn pi pn id).fc.c = FC.c ⟨.v (.int .i64 1), I16.zero, .v (.int .i64 0), .v (.bool false), id, I16.zero, .v (.int .i64 0), .v (.int .i64 mi), .v (.int .i64 mn), .v (.int .i64 pi), .v (.int .i64 pn), .rsl 1 [], .rsl 16 [], I16.zero, .v (.int .i64 0), I16.zero, .rsl 1 [], .v (.int .i64 0), .v (.int .i64 0), .rsl 1 []⟩ := rfl
def helqb18 :=
  (And.intro (And.intro (And.intro helqc3 (And.intro helqc0 helqc4)) (And.intro helqc5 (And.intro helqc6 @build23_1))) (And.intro (And.intro @build23_2 (And.intro @fh_flat @fk_flat)) (And.intro @tab.a121 (And.intro @tab.s121 @tab.u121))))
def helqb19 :=
  (And.intro (And.intro (And.intro helqc3 (And.intro helqc0 helqc4)) (And.intro (And.intro helqc5 helqc6) (And.intro @bwk_a @eq_self.{1}))) (And.intro (And.intro (And.intro @fh_flat @fk_flat) (And.intro @forall_const.{1} @implies_true.{0})) (And.intro (And.intro @implies_true.{1} @tab.a121) (And.intro @tab.s121 @tab.u121))))
def helqb20 :=
  (And.intro (And.intro helqc4 (And.intro helqc5 helqc6)) (And.intro @tab.a121 (And.intro @tab.s121 @tab.u121)))
def helqb21 :=
  (And.intro (And.intro (And.intro helqc3 helqc0) (And.intro helqc4 (And.intro helqc5 helqc6))) (And.intro (And.intro @build23_2 (And.intro @fh_flat @fk_flat)) (And.intro @tab.a121 (And.intro @tab.s121 @tab.u121))))
def helqb22 :=
  (And.intro (And.intro (And.intro helqc3 helqc0) (And.intro helqc4 (And.intro helqc5 helqc6))) (And.intro (And.intro @build135 (And.intro @fh_flat @fk_flat)) (And.intro @tab.a121 (And.intro @tab.s121 @tab.u121))))
def helqb23 :=
  (And.intro (And.intro (And.intro helqc3 helqc0) (And.intro helqc4 (And.intro helqc5 helqc6))) (And.intro (And.intro @fh_flat @fk_flat) (And.intro @tab.a121 (And.intro @tab.s121 @tab.u121))))
def helqb24 :=
  (And.intro (And.intro (And.intro helqc3 helqc0) (And.intro helqc9 (And.intro helqc4 helqc5))) (And.intro (And.intro helqc6 (And.intro @fh_flat @fk_flat)) (And.intro @tab.a121 (And.intro @tab.s121 @tab.u121))))
def helqb25 :=
  (And.intro (And.intro (And.intro (And.intro helqc3 helqc0) (And.intro helqc4 helqc5)) (And.intro (And.intro helqc6 @FC.ent) (And.intro @bwk_a @eq_self.{1}))) (And.intro (And.intro (And.intro @fh_flat @fk_flat) (And.intro @forall_const.{1} @implies_true.{0})) (And.intro (And.intro @implies_true.{1} @tab.a121) (And.intro @tab.s121 (And.intro @tab.u121 @zF.eq_1)))))
def helqb26 :=
  (And.intro (And.intro (And.intro helqc3 (And.intro helqc0 helqc9)) (And.intro helqc4 (And.intro helqc5 helqc6))) (And.intro (And.intro @build23_2 (And.intro @fh_flat @fk_flat)) (And.intro (And.intro @i16_set @tab.a121) (And.intro @tab.s121 @tab.u121))))
set_option maxHeartbeats 4000000 in
theorem helloFixed_calls : Pure Try.prog 93 [] (.v (.bool true)) := by
  refine SCall.mk (fn := Try.f93) (by kernel_rfl) rfl (Nat.le_of_ble_eq_true (by kernel_rfl)) ?_
  refine Sem.go (k := 1000) ?_
  simp -dsimp (decide := true) (disch := first | omega | simp (decide := true) only [helqb7]) only [helqb18, ↓brun_b, envOf, reduceIte, Nat.reduceEqDiff, Nat.reduceAdd, Nat.reduceSub, Nat.reduceMul, Nat.reduceBEq, Nat.reduceLeDiff, Nat.reduceLT, Int.reduceToNat, rho]
  refine SemOps.callw [] cal.f92 (hnew_calls i1) rfl rfl rfl (by simp -dsimp (decide := true) (disch := first | omega | simp (decide := true) only [helqb7]) only [helqb19, ↓brun_b, envOf, reduceIte, Nat.reduceEqDiff, Nat.reduceAdd, Nat.reduceSub, Nat.reduceMul, Nat.reduceBEq, Nat.reduceLeDiff, Nat.reduceLT, Int.reduceToNat, rho, frz1, ↓reduceIte]) rfl (by simp -dsimp (decide := true) (disch := first | omega | simp (decide := true) only [helqb7]) only [helqb19, ↓brun_b, envOf, reduceIte, Nat.reduceEqDiff, Nat.reduceAdd, Nat.reduceSub, Nat.reduceMul, Nat.reduceBEq, Nat.reduceLeDiff, Nat.reduceLT, Int.reduceToNat, rho, frz1, ↓reduceIte]) (by simp -dsimp (decide := true) (disch := first | omega | simp (decide := true) only [helqb7]) only [helqb20, ↓brun_b, envOf, reduceIte, Nat.reduceEqDiff, Nat.reduceAdd, Nat.reduceSub, Nat.reduceMul, Nat.reduceBEq, Nat.reduceLeDiff, Nat.reduceLT, Int.reduceToNat]) ?_
  refine SemOps.go (k := 1000) ?_
  simp -dsimp (decide := true) (disch := first | omega | simp (decide := true) only [helqb7]) only [helqb21, ↓brun_b, envOf, reduceIte, Nat.reduceEqDiff, Nat.reduceAdd, Nat.reduceSub, Nat.reduceMul, Nat.reduceBEq, Nat.reduceLeDiff, Nat.reduceLT, Int.reduceToNat, rho]
  refine SemOps.callw [] cal.f92 (hnew_calls i2) rfl rfl rfl (by simp -dsimp (decide := true) (disch := first | omega | simp (decide := true) only [helqb7]) only [helqb19, ↓brun_b, envOf, reduceIte, Nat.reduceEqDiff, Nat.reduceAdd, Nat.reduceSub, Nat.reduceMul, Nat.reduceBEq, Nat.reduceLeDiff, Nat.reduceLT, Int.reduceToNat, rho, frz1, ↓reduceIte]) rfl (by simp -dsimp (decide := true) (disch := first | omega | simp (decide := true) only [helqb7]) only [helqb19, ↓brun_b, envOf, reduceIte, Nat.reduceEqDiff, Nat.reduceAdd, Nat.reduceSub, Nat.reduceMul, Nat.reduceBEq, Nat.reduceLeDiff, Nat.reduceLT, Int.reduceToNat, rho, frz1, ↓reduceIte]) (by simp -dsimp (decide := true) (disch := first | omega | simp (decide := true) only [helqb7]) only [helqb20, ↓brun_b, envOf, reduceIte, Nat.reduceEqDiff, Nat.reduceAdd, Nat.reduceSub, Nat.reduceMul, Nat.reduceBEq, Nat.reduceLeDiff, Nat.reduceLT, Int.reduceToNat]) ?_
  refine SemOps.go (k := 1000) ?_
  simp -dsimp (decide := true) (disch := first | omega | simp (decide := true) only [helqb7]) only [helqb22, ↓brun_b, envOf, reduceIte, Nat.reduceEqDiff, Nat.reduceAdd, Nat.reduceSub, Nat.reduceMul, Nat.reduceBEq, Nat.reduceLeDiff, Nat.reduceLT, Int.reduceToNat, rho]
  refine Sem.draw' (by kernel_rfl) (.one 0 (.one 1 (.one 3 (.one 4 (.alt 2 (.alt 5 (.one 6 (.one 7 .done)) .non) .non))))) [0, 3] (by kernel_rfl) (fun G ff hG hf => ?_)
  simp (decide := true) only [helqb2, Nat.reduceAdd] at hG ⊢
  simp -dsimp (decide := true) (disch := first | omega | simp (decide := true) only [helqb7]) only [helqb23, ↓brun_b, envOf, reduceIte, Nat.reduceEqDiff, Nat.reduceAdd, Nat.reduceSub, Nat.reduceMul, Nat.reduceBEq, Nat.reduceLeDiff, Nat.reduceLT, Int.reduceToNat, rho, hG]
  refine OpSem.callw [0, 1, 2] cal.f96 (rise_calls i1 I16.zero false 1 1 0 0 0 0 1 0 []) rfl rfl (by simp -dsimp (decide := true) (disch := first | omega | simp (decide := true) only [helqb7]) only [helqb19, ↓brun_b, envOf, reduceIte, Nat.reduceEqDiff, Nat.reduceAdd, Nat.reduceSub, Nat.reduceMul, Nat.reduceBEq, Nat.reduceLeDiff, Nat.reduceLT, Int.reduceToNat, rho, frz1, ↓reduceIte]) rfl (by simp -dsimp (decide := true) (disch := first | omega | simp (decide := true) only [helqb7]) only [helqb19, ↓brun_b, envOf, reduceIte, Nat.reduceEqDiff, Nat.reduceAdd, Nat.reduceSub, Nat.reduceMul, Nat.reduceBEq, Nat.reduceLeDiff, Nat.reduceLT, Int.reduceToNat, rho, frz1, ↓reduceIte]) (by simp -dsimp (decide := true) (disch := first | omega | simp (decide := true) only [helqb7]) only [helqb20, ↓brun_b, envOf, reduceIte, Nat.reduceEqDiff, Nat.reduceAdd, Nat.reduceSub, Nat.reduceMul, Nat.reduceBEq, Nat.reduceLeDiff, Nat.reduceLT, Int.reduceToNat]) ?_
  simp -dsimp (decide := true) (disch := first | omega | simp (decide := true) only [helqb7]) only [helqb23, ↓brun_b, envOf, reduceIte, Nat.reduceEqDiff, Nat.reduceAdd, Nat.reduceSub, Nat.reduceMul, Nat.reduceBEq, Nat.reduceLeDiff, Nat.reduceLT, Int.reduceToNat, rho, hG]
  refine OpSem.callw [3, 4, 5] cal.f96 (rise_calls i2 I16.zero false 1 1 0 0 0 0 1 0 []) rfl rfl (by simp -dsimp (decide := true) (disch := first | omega | simp (decide := true) only [helqb7]) only [helqb19, ↓brun_b, envOf, reduceIte, Nat.reduceEqDiff, Nat.reduceAdd, Nat.reduceSub, Nat.reduceMul, Nat.reduceBEq, Nat.reduceLeDiff, Nat.reduceLT, Int.reduceToNat, rho, frz1, ↓reduceIte]) rfl (by simp -dsimp (decide := true) (disch := first | omega | simp (decide := true) only [helqb7]) only [helqb19, ↓brun_b, envOf, reduceIte, Nat.reduceEqDiff, Nat.reduceAdd, Nat.reduceSub, Nat.reduceMul, Nat.reduceBEq, Nat.reduceLeDiff, Nat.reduceLT, Int.reduceToNat, rho, frz1, ↓reduceIte]) (by simp -dsimp (decide := true) (disch := first | omega | simp (decide := true) only [helqb7]) only [helqb20, ↓brun_b, envOf, reduceIte, Nat.reduceEqDiff, Nat.reduceAdd, Nat.reduceSub, Nat.reduceMul, Nat.reduceBEq, Nat.reduceLeDiff, Nat.reduceLT, Int.reduceToNat]) ?_
  simp -dsimp (decide := true) (disch := first | omega | simp (decide := true) only [helqb7]) only [helqb23, ↓brun_b, envOf, reduceIte, Nat.reduceEqDiff, Nat.reduceAdd, Nat.reduceSub, Nat.reduceMul, Nat.reduceBEq, Nat.reduceLeDiff, Nat.reduceLT, Int.reduceToNat, rho, hG]
  refine hf _ (Sem.go (k := 1000) ?_)
  simp (decide := true) only [back_mk, backL_in, backL_row, backL_none, backL_nil, Nat.zero_add, Nat.reduceAdd]
  simp -dsimp (decide := true) (disch := first | omega | simp (decide := true) only [helqb7]) only [helqb24, ↓brun_b, envOf, reduceIte, Nat.reduceEqDiff, Nat.reduceAdd, Nat.reduceSub, Nat.reduceMul, Nat.reduceBEq, Nat.reduceLeDiff, Nat.reduceLT, Int.reduceToNat, rho, Nat.zero_mul, List.drop_zero]
  have hc := hear_new (hF 1 1 0 0 i2) rfl i1 I16.zero false false 1 1 0 0 0 0 1 0 1 1 [] (by decide) (by decide) (by decide) rfl rfl (by decide)
  rw [hF_c] at hc
  simp only [hF] at hc
  refine SemOps.callw [0, 7, 8] cal.f106 (hc) rfl rfl rfl (by simp -dsimp (decide := true) (disch := first | omega | simp (decide := true) only [helqb7]) only [helqb25, ↓brun_b, envOf, reduceIte, Nat.reduceEqDiff, Nat.reduceAdd, Nat.reduceSub, Nat.reduceMul, Nat.reduceBEq, Nat.reduceLeDiff, Nat.reduceLT, Int.reduceToNat, rho, frz1, ↓reduceIte]) rfl (by simp -dsimp (decide := true) (disch := first | omega | simp (decide := true) only [helqb7]) only [helqb25, ↓brun_b, envOf, reduceIte, Nat.reduceEqDiff, Nat.reduceAdd, Nat.reduceSub, Nat.reduceMul, Nat.reduceBEq, Nat.reduceLeDiff, Nat.reduceLT, Int.reduceToNat, rho, frz1, ↓reduceIte]) (by simp -dsimp (decide := true) (disch := first | omega | simp (decide := true) only [helqb7]) only [helqb20, ↓brun_b, envOf, reduceIte, Nat.reduceEqDiff, Nat.reduceAdd, Nat.reduceSub, Nat.reduceMul, Nat.reduceBEq, Nat.reduceLeDiff, Nat.reduceLT, Int.reduceToNat]) ?_
  refine SemOps.go (k := 1000) ?_
  simp -dsimp (decide := true) (disch := first | omega | simp (decide := true) only [helqb7]) only [helqb24, ↓brun_b, envOf, reduceIte, Nat.reduceEqDiff, Nat.reduceAdd, Nat.reduceSub, Nat.reduceMul, Nat.reduceBEq, Nat.reduceLeDiff, Nat.reduceLT, Int.reduceToNat, rho, Nat.zero_mul, List.drop_zero]
  have hc := hear_new (hF 1 1 1 1 i1) rfl i2 I16.zero false true 1 1 0 0 0 0 1 0 1 1 [] (by decide) (by decide) (by decide) rfl rfl (by decide)
  rw [hF_c] at hc
  simp only [hF] at hc
  refine SemOps.callw [3, 10, 11] cal.f106 (hc) rfl rfl rfl (by simp -dsimp (decide := true) (disch := first | omega | simp (decide := true) only [helqb7]) only [helqb25, ↓brun_b, envOf, reduceIte, Nat.reduceEqDiff, Nat.reduceAdd, Nat.reduceSub, Nat.reduceMul, Nat.reduceBEq, Nat.reduceLeDiff, Nat.reduceLT, Int.reduceToNat, rho, frz1, ↓reduceIte]) rfl (by simp -dsimp (decide := true) (disch := first | omega | simp (decide := true) only [helqb7]) only [helqb25, ↓brun_b, envOf, reduceIte, Nat.reduceEqDiff, Nat.reduceAdd, Nat.reduceSub, Nat.reduceMul, Nat.reduceBEq, Nat.reduceLeDiff, Nat.reduceLT, Int.reduceToNat, rho, frz1, ↓reduceIte]) (by simp -dsimp (decide := true) (disch := first | omega | simp (decide := true) only [helqb7]) only [helqb20, ↓brun_b, envOf, reduceIte, Nat.reduceEqDiff, Nat.reduceAdd, Nat.reduceSub, Nat.reduceMul, Nat.reduceBEq, Nat.reduceLeDiff, Nat.reduceLT, Int.reduceToNat]) ?_
  refine SemOps.go (k := 1000) ?_
  simp -dsimp (decide := true) (disch := first | omega | simp (decide := true) only [helqb7]) only [helqb24, ↓brun_b, envOf, reduceIte, Nat.reduceEqDiff, Nat.reduceAdd, Nat.reduceSub, Nat.reduceMul, Nat.reduceBEq, Nat.reduceLeDiff, Nat.reduceLT, Int.reduceToNat, rho, Nat.zero_mul, List.drop_zero]
  have hc := hear_hi (hF 1 1 1 1 i2) rfl i1 i2 false true 1 1 1 1 0 0 1 0 [] (by decide) (by decide) (by decide) (by decide) (by decide)
  rw [hF_c] at hc
  simp only [hF, Bool.false_or, Bool.not_false, Bool.and_self] at hc
  refine SemOps.callw [0, 13, 14] cal.f106 (hc) rfl rfl rfl (by simp -dsimp (decide := true) (disch := first | omega | simp (decide := true) only [helqb7]) only [helqb25, ↓brun_b, envOf, reduceIte, Nat.reduceEqDiff, Nat.reduceAdd, Nat.reduceSub, Nat.reduceMul, Nat.reduceBEq, Nat.reduceLeDiff, Nat.reduceLT, Int.reduceToNat, rho, frz1, ↓reduceIte]) rfl (by simp -dsimp (decide := true) (disch := first | omega | simp (decide := true) only [helqb7]) only [helqb25, ↓brun_b, envOf, reduceIte, Nat.reduceEqDiff, Nat.reduceAdd, Nat.reduceSub, Nat.reduceMul, Nat.reduceBEq, Nat.reduceLeDiff, Nat.reduceLT, Int.reduceToNat, rho, frz1, ↓reduceIte]) (by simp -dsimp (decide := true) (disch := first | omega | simp (decide := true) only [helqb7]) only [helqb20, ↓brun_b, envOf, reduceIte, Nat.reduceEqDiff, Nat.reduceAdd, Nat.reduceSub, Nat.reduceMul, Nat.reduceBEq, Nat.reduceLeDiff, Nat.reduceLT, Int.reduceToNat]) ?_
  refine SemOps.go (k := 1000) ?_
  simp -dsimp (decide := true) (disch := first | omega | simp (decide := true) only [helqb7]) only [helqb24, ↓brun_b, envOf, reduceIte, Nat.reduceEqDiff, Nat.reduceAdd, Nat.reduceSub, Nat.reduceMul, Nat.reduceBEq, Nat.reduceLeDiff, Nat.reduceLT, Int.reduceToNat, rho]
  have hc := open_calls i1 i2 true true 1 1 1 1 1 0 []
  simp only [cond_true] at hc
  refine SemOps.callw [0, 13, 14] cal.f110 (hc) rfl rfl rfl (by simp -dsimp (decide := true) (disch := first | omega | simp (decide := true) only [helqb7]) only [helqb19, ↓brun_b, envOf, reduceIte, Nat.reduceEqDiff, Nat.reduceAdd, Nat.reduceSub, Nat.reduceMul, Nat.reduceBEq, Nat.reduceLeDiff, Nat.reduceLT, Int.reduceToNat, rho, frz1, ↓reduceIte]) rfl (by simp -dsimp (decide := true) (disch := first | omega | simp (decide := true) only [helqb7]) only [helqb19, ↓brun_b, envOf, reduceIte, Nat.reduceEqDiff, Nat.reduceAdd, Nat.reduceSub, Nat.reduceMul, Nat.reduceBEq, Nat.reduceLeDiff, Nat.reduceLT, Int.reduceToNat, rho, frz1, ↓reduceIte]) (by simp -dsimp (decide := true) (disch := first | omega | simp (decide := true) only [helqb7]) only [helqb20, ↓brun_b, envOf, reduceIte, Nat.reduceEqDiff, Nat.reduceAdd, Nat.reduceSub, Nat.reduceMul, Nat.reduceBEq, Nat.reduceLeDiff, Nat.reduceLT, Int.reduceToNat]) ?_
  refine SemOps.go (k := 1000) ?_
  simp -dsimp (decide := true) (disch := first | omega | simp (decide := true) only [helqb7]) only [helqb26, ↓brun_b, envOf, reduceIte, Nat.reduceEqDiff, Nat.reduceAdd, Nat.reduceSub, Nat.reduceMul, Nat.reduceBEq, Nat.reduceLeDiff, Nat.reduceLT, Int.reduceToNat, rho, sBin_agg .eql 23 _ _ _ (I16.cellsEq _ _), sBin_agg .eql 135 _ _ _ (ceq135 _ _ _ _), sBin_agg .neq 23 _ _ _ (I16.cellsEq _ _), sBin_agg .neq 135 _ _ _ (ceq135 _ _ _ _)]
  refine And.intro (flat23 _ _) ?_
  refine SQ.answer (rs := [.tmp 0]) rfl rfl ?_
  simp -dsimp (decide := true) (disch := first | omega | simp (decide := true) only [helqb7]) only [helqb19, ↓brun_b, envOf, reduceIte, Nat.reduceEqDiff, Nat.reduceAdd, Nat.reduceSub, Nat.reduceMul, Nat.reduceBEq, Nat.reduceLeDiff, Nat.reduceLT, Int.reduceToNat, rho, frz1, ↓reduceIte]
end Go.Proofs
namespace Go.SL
open Go
end Go.SL
namespace Go.Proofs
open Go Go.SL
set_option maxRecDepth 100000
end Go.Proofs
namespace Go.SL
open Go
def I64 (x : Int) : Prop := -9223372036854775808 ≤ x ∧ x < 9223372036854775808
structure Frm.wf (F : Frm) : Prop where
  kind : I64 F.kind
  pn : I64 F.pn
  n : I64 F.n
  fi : I64 F.fi
  fn : I64 F.fn
  ti : I64 F.ti
  tn : I64 F.tn
  tr : ∀ m ∈ F.tr, I64 m
  vn : I64 F.vn
  op : I64 F.op
  ttl : I64 F.ttl
  ltr : F.tr.length * 8 ≤ reachBytes
  lis : F.is.length * 16 ≤ reachBytes
  lval : F.val.length ≤ reachBytes
  ltx : F.tx.length ≤ reachBytes
end Go.SL
namespace Go.Proofs
open Go Go.SL
set_option maxRecDepth 100000
theorem frm_one (F : Frm) : F.fc.c.all SV.one = true := by simp [FC.one_eq, Frm.fc, one_v, oneCell_int, oneCell_bool, one_rsl]
end Go.Proofs
