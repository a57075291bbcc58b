/- Contracts of functions that the laws reach, on abstract values, and what they need: no conditions but those that each theorem states. -/
import Derived.Test.YtheodenjjaoncaaKinP
import Derived.Test.YtheodenjjaoncaaRigP
import Derived.Test.YtheodenjjaoncaaLayP
import Derived.Test.YtheodenjjaoncaaFcP
set_option linter.unusedVariables false
set_option linter.unusedSimpArgs false
set_option linter.defProp false
namespace Go.Proofs
open Go Go.SL
set_option maxRecDepth 100000
theorem b222 : sBuild Try.prog 222 [] = some ⟨.agg [.v (.slice none 0 0)], {}, True⟩ := by
  rw [sBuild_eq, tab.z222, tab.l222]; rfl
theorem nB_nil : nB [] = [] := rfl
theorem fits_5 (F : Frm) (hw : F.wf) (h : rightB 5 F = true) : fits 5 F := by
  have w_pn := hw.pn; have w_n := hw.n; have w_fi := hw.fi; have w_fn := hw.fn; have w_ti := hw.ti; have w_tn := hw.tn; have w_vn := hw.vn; have w_op := hw.op; have w_ttl := hw.ttl; unfold I64 at *
  simp only [rightB, allNN, trB, List.all_cons, List.all_nil, Bool.and_true, Bool.and_eq_true, decide_eq_true_eq] at h
  simp only [fits]
  (repeat' apply And.intro) <;> first | omega | exact h.2.2 | exact h.1.1.2.2 | exact h.2.1.2.2 | exact h.1.2.2
end Go.Proofs
namespace Go.Proofs
open Go Go.SL
set_option maxRecDepth 100000
def encqc0 :=
  (And.intro (And.intro (And.intro (And.intro @AD.c_length @AK.c_length) (And.intro @CP.c_length @DR.c_length)) (And.intro (And.intro @EC.c_length @FC.c_length) (And.intro @GT.c_length @H1.c_length))) (And.intro (And.intro (And.intro @I16.c_length @IC.c_length) (And.intro @PE.c_length @PK.c_length)) (And.intro (And.intro @PT.c_length @SU.c_length) (And.intro @brow_len (And.intro @idrs_len @lrows_length)))))
def encqc1 :=
  (And.intro (And.intro (And.intro (And.intro @AD.flat @AK.flat) (And.intro @CP.flat (And.intro @DR.flat @EC.flat))) (And.intro (And.intro @GT.flat (And.intro @H1.flat @I16.flat)) (And.intro @IC.flat (And.intro @PE.flat @PK.flat)))) (And.intro (And.intro (And.intro @PT.flat @SU.flat) (And.intro @brow_flat (And.intro @bsl_flat @frm_flat))) (And.intro (And.intro @frmc_flat (And.intro @idrs_flat @isl_flat)) (And.intro @lrows_flat (And.intro @lsl_flat @p144_flat)))))
def encqb0 :=
  (And.intro (And.intro (And.intro (And.intro encqc0 (And.intro encqc1 @AD.one)) (And.intro @AK.one (And.intro @CP.one @DR.one))) (And.intro (And.intro @EC.one (And.intro @FC.flat_eq @FC.one_eq)) (And.intro (And.intro @GT.one @H1.one) (And.intro @I16.one @IC.one)))) (And.intro (And.intro (And.intro @PE.one (And.intro @PK.one @PT.one)) (And.intro @SU.one (And.intro @bdset_a @lrow_len))) (And.intro (And.intro @p144_len (And.intro @p144_one @zD.eq_1)) (And.intro (And.intro @zE.eq_1 @zF.eq_1) (And.intro @zH.eq_1 @zK.eq_1)))))
def encqc2 :=
  (And.intro (And.intro (And.intro (And.intro (And.intro (And.intro (And.intro @AD.at_n @AD.part) (And.intro @AD.part_a @AD.set_all)) (And.intro (And.intro @AK.at_op @AK.at_pn) (And.intro @AK.at_toA @AK.at_tr))) (And.intro (And.intro (And.intro @AK.part @AK.part_P) (And.intro @AK.part_a @AK.part_b)) (And.intro (And.intro @AK.set_all @CP.at_pn) (And.intro @CP.at_toA @CP.at_val)))) (And.intro (And.intro (And.intro (And.intro @CP.part @CP.part_P) (And.intro @CP.part_it @CP.part_key)) (And.intro (And.intro @CP.set_all @DR.at_pn) (And.intro @DR.part_P @DR.set_all))) (And.intro (And.intro (And.intro @EC.at_op @EC.at_pn) (And.intro @EC.ent @EC.part)) (And.intro (And.intro @EC.set_all @EC.set_op) (And.intro @FC.at_is @FC.at_kind))))) (And.intro (And.intro (And.intro (And.intro (And.intro @FC.at_n @FC.at_op) (And.intro @FC.at_pn @FC.at_toA)) (And.intro (And.intro @FC.at_tr @FC.at_ttl) (And.intro @FC.at_tx @FC.at_val))) (And.intro (And.intro (And.intro @FC.ent @FC.part) (And.intro @FC.part_P @FC.part_a)) (And.intro (And.intro @FC.part_b @FC.part_from) (And.intro @FC.part_it @FC.part_key)))) (And.intro (And.intro (And.intro (And.intro @FC.part_to @FC.part_ver) (And.intro @FC.set_all @GT.at_pn)) (And.intro (And.intro @GT.at_toA @GT.part) (And.intro @GT.part_P @GT.part_key))) (And.intro (And.intro (And.intro @GT.part_ver @GT.set_all) (And.intro @H1.part @H1.part_a)) (And.intro (And.intro @H1.part_from @H1.part_to) (And.intro @H1.set_all (And.intro @I16.part @IC.at_val))))))) (And.intro (And.intro (And.intro (And.intro (And.intro (And.intro @IC.part_key @IC.part_ver) (And.intro @Int.cast_ofNat_Int @List.replicate_succ.{0})) (And.intro (And.intro @List.replicate_zero.{0} @PE.at_is) (And.intro @PE.at_pn @PE.at_toA))) (And.intro (And.intro (And.intro @PE.part @PE.part_P) (And.intro @PE.set_all @PK.at_n)) (And.intro (And.intro @PK.at_op @PK.at_ttl) (And.intro @PK.at_tx @PK.at_val)))) (And.intro (And.intro (And.intro (And.intro @PK.part @PK.part_a) (And.intro @PK.part_b @PK.part_it)) (And.intro (And.intro @PK.part_key @PK.set_all) (And.intro @PT.at_pn @PT.at_toA))) (And.intro (And.intro (And.intro @PT.part @PT.part_P) (And.intro @PT.set_all @SKren_row)) (And.intro (And.intro @SU.at_pn @SU.at_tr) (And.intro @SU.part @SU.part_P))))) (And.intro (And.intro (And.intro (And.intro (And.intro @SU.part_a @SU.part_b) (And.intro @SU.set_all @after_mk)) (And.intro (And.intro @al149 @al151) (And.intro @al230 @al232))) (And.intro (And.intro (And.intro @al23n @al4) (And.intro @b222 @brow_cell)) (And.intro (And.intro @bs69_1 @bs79) (And.intro @build151z @build214)))) (And.intro (And.intro (And.intro (And.intro @cellAt_succ @cellAt_zero) (And.intro @hit230 @mergeL_done)) (And.intro (And.intro @mergeL_own @mergeL_row) (And.intro @mk210 @mk214))) (And.intro (And.intro (And.intro @mk218 @renL_cons) (And.intro @renL_flat @renL_nil)) (And.intro (And.intro @ren_tup @sop_assert) (And.intro @splice_0 (And.intro @splice_c @splice_s))))))))
def encqc3 :=
  (And.intro (And.intro (And.intro (And.intro (And.intro (And.intro @beq_self_eq_true.{0} (And.intro @brun_a @cond_false.{1})) (And.intro (And.intro @cond_true.{1} @tab.a135) (And.intro @tab.a144 @tab.a145))) (And.intro (And.intro @tab.a147 (And.intro @tab.a149 @tab.a151)) (And.intro (And.intro @tab.a2 @tab.a23) (And.intro @tab.a3 @tab.a35)))) (And.intro (And.intro (And.intro @tab.a4 (And.intro @tab.a5 @tab.a79)) (And.intro (And.intro @tab.f144x0 @tab.f144x1) (And.intro @tab.f149x0 @tab.f149x1))) (And.intro (And.intro @tab.f149x2 (And.intro @tab.f151x0 @tab.f151x1)) (And.intro (And.intro @tab.f151x10 @tab.f151x11) (And.intro @tab.f151x12 @tab.f151x13))))) (And.intro (And.intro (And.intro (And.intro @tab.f151x2 (And.intro @tab.f151x3 @tab.f151x4)) (And.intro (And.intro @tab.f151x5 @tab.f151x6) (And.intro @tab.f151x7 @tab.f151x8))) (And.intro (And.intro @tab.f151x9 (And.intro @tab.f214x0 @tab.f214x1)) (And.intro (And.intro @tab.f214x2 @tab.f222x0) (And.intro @tab.f226x0 @tab.f226x1)))) (And.intro (And.intro (And.intro @tab.f226x2 (And.intro @tab.f226x3 @tab.f230x0)) (And.intro (And.intro @tab.f232x0 @tab.f232x1) (And.intro @tab.f235x0 @tab.f235x1))) (And.intro (And.intro @tab.f235x2 (And.intro @tab.f237x0 @tab.f237x1)) (And.intro (And.intro @tab.f237x2 @tab.f237x3) (And.intro @tab.f237x4 @tab.f237x5)))))) (And.intro (And.intro (And.intro (And.intro (And.intro @tab.f239x0 (And.intro @tab.f239x1 @tab.f241x0)) (And.intro (And.intro @tab.f241x1 @tab.f241x2) (And.intro @tab.f241x3 @tab.f241x4))) (And.intro (And.intro @tab.f241x5 (And.intro @tab.f241x6 @tab.f244x0)) (And.intro (And.intro @tab.f244x1 @tab.f244x2) (And.intro @tab.f246x0 @tab.f246x1)))) (And.intro (And.intro (And.intro @tab.f246x2 (And.intro @tab.f246x3 @tab.s135)) (And.intro (And.intro @tab.s144 @tab.s145) (And.intro @tab.s147 @tab.s149))) (And.intro (And.intro @tab.s151 (And.intro @tab.s2 @tab.s23)) (And.intro (And.intro @tab.s230 @tab.s232) (And.intro @tab.s3 @tab.s35))))) (And.intro (And.intro (And.intro (And.intro @tab.s4 (And.intro @tab.s5 @tab.s79)) (And.intro (And.intro @tab.u135 @tab.u144) (And.intro @tab.u145 @tab.u147))) (And.intro (And.intro @tab.u181 (And.intro @tab.u2 @tab.u210)) (And.intro (And.intro @tab.u214 @tab.u218) (And.intro @tab.u226 @tab.u23)))) (And.intro (And.intro (And.intro @tab.u230 (And.intro @tab.u232 @tab.u235)) (And.intro (And.intro @tab.u237 @tab.u239) (And.intro @tab.u241 @tab.u244))) (And.intro (And.intro @tab.u246 (And.intro @tab.u3 @tab.u35)) (And.intro (And.intro @tab.u4 @tab.u5) (And.intro @tab.u69 @tab.u79)))))))
def encqb1 :=
  (And.intro encqc2 (And.intro encqc0 encqc3))
def encqb4 :=
  (And.intro (And.intro (And.intro @List.length_cons.{0} @List.length_nil.{0}) (And.intro @Nat.zero_add @roL_in)) (And.intro (And.intro @roL_nil @roL_none) (And.intro @roL_row @ro_mk)))
def encqb5 :=
  (And.intro (And.intro (And.intro encqc2 encqc0) (And.intro encqc3 @bwk_a)) (And.intro (And.intro @eq_self.{1} @forall_const.{1}) (And.intro @implies_true.{0} @implies_true.{1})))
set_option maxHeartbeats 8000000 in
theorem enc_5 (F : Frm) (hw : F.wf) (hk : F.kind = 5) (hr : rightB 5 F = true) (hs : frmEq (bare 5 F) F = true) : SCall Try.prog 114 [.agg F.fc.c] [] fun r L => r = .ret (.tup [.slc 0 0 (bytesB F).length, .v (.int .i64 0)]) ∧ L = [bytR (bytesB F)] := by
  have hft := fits_5 F hw hr
  simp only [fits] at hft
  have b_ltx : F.tx.length ≤ 140737488355328 := by have := hw.ltx; unfold reachBytes at this; omega
  have b_lval : F.val.length ≤ 140737488355328 := by have := hw.lval; unfold reachBytes at this; omega
  have b_ltr : F.tr.length * 8 ≤ 140737488355328 := by have := hw.ltr; unfold reachBytes at this; omega
  have b_lis : F.is.length * 16 ≤ 140737488355328 := by have := hw.lis; unfold reachBytes at this; omega
  have h1 : F.tr.length < 4611686018427387904 := by have := hw.ltr; unfold reachBytes at this; omega
  have h2 : F.is.length < 4611686018427387904 := by have := hw.lis; unfold reachBytes at this; omega
  have hright := right_k5 F
  rw [hr] at hright
  have hsame := same143_calls (bare 5 F) F (by show 0 < 4611686018427387904; decide) (by show 0 < 4611686018427387904; decide) h1 h2
  rw [hs] at hsame
  have hplain := plainB_5 F
  refine SCall.mk (fn := Try.f114) (by kernel_rfl) rfl (Nat.le_of_ble_eq_true (by kernel_rfl)) ?_
  refine Sem.go (k := 1000) ?_
  simp -dsimp (decide := true) (maxSteps := 1000000) (disch := first | omega | simp (decide := true) only [encqb0]) only [encqb1, ↓brun_b, envOf, reduceIte, Nat.reduceEqDiff, Nat.reduceAdd, Nat.reduceSub, Nat.reduceMul, Nat.reduceBEq, Nat.reduceLeDiff, Nat.reduceLT, Int.reduceToNat, rho, Frm.fc]
  refine SemOps.callq (k := 1000) cal.f119 (of_k5 F hk) rfl rfl rfl rfl (by simp only [bflat_a, encqc1]) (by simp only [bflat_a, encqc1]) (by simp -dsimp (decide := true) (maxSteps := 1000000) (disch := first | omega | simp (decide := true) only [encqb0]) only [encqc3, ↓brun_b, envOf, reduceIte, Nat.reduceEqDiff, Nat.reduceAdd, Nat.reduceSub, Nat.reduceMul, Nat.reduceBEq, Nat.reduceLeDiff, Nat.reduceLT, Int.reduceToNat]) ?_
  simp -dsimp (decide := true) (maxSteps := 1000000) (disch := first | omega | simp (decide := true) only [encqb0]) only [encqb1, ↓brun_b, envOf, reduceIte, Nat.reduceEqDiff, Nat.reduceAdd, Nat.reduceSub, Nat.reduceMul, Nat.reduceBEq, Nat.reduceLeDiff, Nat.reduceLT, Int.reduceToNat, rho, Frm.fc]
  refine Sem.draw' (by kernel_rfl) (.one 0 (.one 1 (.one 2 (.one 3 (.alt 4 (.one 5 (.one 6 (.one 7 (.one 8 (.one 10 (.alt 9 (.alt 11 (.one 12 (.one 13 .done)) .non) .non)))))) .non))))) [] (by kernel_rfl) (fun G ff hG hf => ?_)
  simp (decide := true) only [encqb4, Nat.reduceAdd] at hG ⊢
  simp -dsimp (decide := true) (maxSteps := 1000000) (disch := first | omega | simp (decide := true) only [encqb0]) only [encqb1, ↓brun_b, envOf, reduceIte, Nat.reduceEqDiff, Nat.reduceAdd, Nat.reduceSub, Nat.reduceMul, Nat.reduceBEq, Nat.reduceLeDiff, Nat.reduceLT, Int.reduceToNat, rho, Frm.fc, hG]
  refine OpSem.callq cal.f121 (hright) rfl rfl rfl (by simp only [bflat_a, encqc1]) (by simp only [bflat_a, encqc1]) (by simp -dsimp (decide := true) (maxSteps := 1000000) (disch := first | omega | simp (decide := true) only [encqb0]) only [encqc3, ↓brun_b, envOf, reduceIte, Nat.reduceEqDiff, Nat.reduceAdd, Nat.reduceSub, Nat.reduceMul, Nat.reduceBEq, Nat.reduceLeDiff, Nat.reduceLT, Int.reduceToNat]) ?_
  simp -dsimp (decide := true) (maxSteps := 1000000) (disch := first | omega | simp (decide := true) only [encqb0]) only [encqb1, ↓brun_b, envOf, reduceIte, Nat.reduceEqDiff, Nat.reduceAdd, Nat.reduceSub, Nat.reduceMul, Nat.reduceBEq, Nat.reduceLeDiff, Nat.reduceLT, Int.reduceToNat, rho, Frm.fc, hG]
  refine OpSem.callq cal.f123 (hplain) rfl rfl rfl (by simp only [bflat_a, encqc1]) (by simp only [bflat_a, encqc1]) (by simp -dsimp (decide := true) (maxSteps := 1000000) (disch := first | omega | simp (decide := true) only [encqb0]) only [encqc3, ↓brun_b, envOf, reduceIte, Nat.reduceEqDiff, Nat.reduceAdd, Nat.reduceSub, Nat.reduceMul, Nat.reduceBEq, Nat.reduceLeDiff, Nat.reduceLT, Int.reduceToNat]) ?_
  simp -dsimp (decide := true) (maxSteps := 1000000) (disch := first | omega | simp (decide := true) only [encqb0]) only [encqb1, ↓brun_b, envOf, reduceIte, Nat.reduceEqDiff, Nat.reduceAdd, Nat.reduceSub, Nat.reduceMul, Nat.reduceBEq, Nat.reduceLeDiff, Nat.reduceLT, Int.reduceToNat, rho, Frm.fc, hG]
  refine OpSem.callq cal.f143 (hsame) rfl rfl rfl (by simp only [bflat_a, encqc1]) (by simp only [bflat_a, encqc1]) (by simp -dsimp (decide := true) (maxSteps := 1000000) (disch := first | omega | simp (decide := true) only [encqb0]) only [encqc3, ↓brun_b, envOf, reduceIte, Nat.reduceEqDiff, Nat.reduceAdd, Nat.reduceSub, Nat.reduceMul, Nat.reduceBEq, Nat.reduceLeDiff, Nat.reduceLT, Int.reduceToNat]) ?_
  simp -dsimp (decide := true) (maxSteps := 1000000) (disch := first | omega | simp (decide := true) only [encqb0]) only [encqb1, ↓brun_b, envOf, reduceIte, Nat.reduceEqDiff, Nat.reduceAdd, Nat.reduceSub, Nat.reduceMul, Nat.reduceBEq, Nat.reduceLeDiff, Nat.reduceLT, Int.reduceToNat, rho, Frm.fc, hG]
  refine hf _ (Sem.go (k := 1000) ?_)
  simp (decide := true) only [back_mk, backL_in, backL_row, backL_none, backL_nil, Nat.zero_add, Nat.reduceAdd]
  simp -dsimp (decide := true) (maxSteps := 1000000) (disch := first | omega | simp (decide := true) only [encqb0]) only [encqb1, ↓brun_b, envOf, reduceIte, Nat.reduceEqDiff, Nat.reduceAdd, Nat.reduceSub, Nat.reduceMul, Nat.reduceBEq, Nat.reduceLeDiff, Nat.reduceLT, Int.reduceToNat, rho, Frm.fc]
  refine SemOps.callI rfl rfl rfl meth230 cal.f194 (kind_k5 F) (bodyF_5 F) rfl (by simp -dsimp (decide := true) (maxSteps := 1000000) (disch := first | omega | simp (decide := true) only [encqb0]) only [encqb1, ↓brun_b, envOf, reduceIte, Nat.reduceEqDiff, Nat.reduceAdd, Nat.reduceSub, Nat.reduceMul, Nat.reduceBEq, Nat.reduceLeDiff, Nat.reduceLT, Int.reduceToNat, rho, Frm.fc]) ?_
  refine SemOps.go (k := 1000) ?_
  simp -dsimp (decide := true) (maxSteps := 1000000) (disch := first | omega | simp (decide := true) only [encqb0]) only [encqb1, ↓brun_b, envOf, reduceIte, Nat.reduceEqDiff, Nat.reduceAdd, Nat.reduceSub, Nat.reduceMul, Nat.reduceBEq, Nat.reduceLeDiff, Nat.reduceLT, Int.reduceToNat, rho, Frm.fc]
  refine Lent.ops (Lent.ghostB 1 0 1 5 rfl rfl) ?_
  refine SemOps.frz (d := 43) (lrows [5]) rfl rfl rfl (by omega) (fun i r h => ent_icells h) ?_
  have hA0 : ([] : List UInt8).length + (N 5).length ≤ 140737488355328 := by decide
  have c0 := numLay1 5 (by decide) [] hA0
  unfold ladR bytR at c0
  rw [List.nil_append] at c0
  have hL0 := N_le 5 (by decide)
  generalize hA : N 5 = A at c0 hL0
  refine SemOps.callw [1, 3] cal.f144 (c0) rfl rfl rfl (by simp -dsimp (decide := true) (maxSteps := 1000000) (disch := first | omega | simp (decide := true) only [encqb0]) only [encqb5, ↓brun_b, envOf, reduceIte, Nat.reduceEqDiff, Nat.reduceAdd, Nat.reduceSub, Nat.reduceMul, Nat.reduceBEq, Nat.reduceLeDiff, Nat.reduceLT, Int.reduceToNat, rho, Frm.fc, frz1, ↓reduceIte]) rfl (by simp -dsimp (decide := true) (maxSteps := 1000000) (disch := first | omega | simp (decide := true) only [encqb0]) only [encqb5, ↓brun_b, envOf, reduceIte, Nat.reduceEqDiff, Nat.reduceAdd, Nat.reduceSub, Nat.reduceMul, Nat.reduceBEq, Nat.reduceLeDiff, Nat.reduceLT, Int.reduceToNat, rho, Frm.fc, frz1, ↓reduceIte]) (by simp -dsimp (decide := true) (maxSteps := 1000000) (disch := first | omega | simp (decide := true) only [encqb0]) only [encqc3, ↓brun_b, envOf, reduceIte, Nat.reduceEqDiff, Nat.reduceAdd, Nat.reduceSub, Nat.reduceMul, Nat.reduceBEq, Nat.reduceLeDiff, Nat.reduceLT, Int.reduceToNat]) ?_
  refine SemOps.go (k := 0) ?_
  simp -dsimp (decide := true) (maxSteps := 1000000) (disch := first | omega | simp (decide := true) only [encqb0]) only [encqb1, ↓brun_b, envOf, reduceIte, Nat.reduceEqDiff, Nat.reduceAdd, Nat.reduceSub, Nat.reduceMul, Nat.reduceBEq, Nat.reduceLeDiff, Nat.reduceLT, Int.reduceToNat, rho, Frm.fc]
  refine Sem.weaken [1, 4] (s' := ⟨300, 0, [(4, .ifc 230 (.agg (DR.c ⟨F.who, .v (.int .i64 F.pn)⟩))), (6, .ptr 0 0 0)], [some (.row ⟨1, 1, true, 222, fun _ => [.slc 1 0 A.length]⟩), some (.row ⟨1, A.length, true, 5, brow A⟩)]⟩) ?_ ?_
  · (refine Wk.ofC ?_; simp -dsimp (decide := true) (maxSteps := 1000000) (disch := first | omega | simp (decide := true) only [encqb0]) only [encqb5, ↓brun_b, envOf, reduceIte, Nat.reduceEqDiff, Nat.reduceAdd, Nat.reduceSub, Nat.reduceMul, Nat.reduceBEq, Nat.reduceLeDiff, Nat.reduceLT, Int.reduceToNat, rho, Frm.fc, frz1, ↓reduceIte])
  refine Sem.go (k := 1000) ?_
  simp -dsimp (decide := true) (maxSteps := 1000000) (disch := first | omega | simp (decide := true) only [encqb0]) only [encqb1, ↓brun_b, envOf, reduceIte, Nat.reduceEqDiff, Nat.reduceAdd, Nat.reduceSub, Nat.reduceMul, Nat.reduceBEq, Nat.reduceLeDiff, Nat.reduceLT, Int.reduceToNat, rho, Frm.fc, fun v => miss214 230 v (by decide), fun v => miss210 230 v (by decide), fun v => miss218 230 v (by decide), fun v => miss226 230 v (by decide)]
  have hk1 : (iB F.who ++ N F.pn).length ≤ 25 := by have := N_le F.pn (by omega); simp only [List.length_append, iB_length]; omega
  have c1 := (path_lays F.who F.pn (by omega)) A (by omega)
  unfold ladR bytR at c1
  have hL1 : (A ++ (iB F.who ++ N F.pn)).length = A.length + ((iB F.who ++ N F.pn)).length := List.length_append
  generalize hA1 : A ++ (iB F.who ++ N F.pn) = A1 at c1 hL1
  refine SemOps.callw [0, 1] cal.f146 (c1) rfl rfl rfl (by simp -dsimp (decide := true) (maxSteps := 1000000) (disch := first | omega | simp (decide := true) only [encqb0]) only [encqb5, ↓brun_b, envOf, reduceIte, Nat.reduceEqDiff, Nat.reduceAdd, Nat.reduceSub, Nat.reduceMul, Nat.reduceBEq, Nat.reduceLeDiff, Nat.reduceLT, Int.reduceToNat, rho, Frm.fc, frz1, ↓reduceIte]) rfl (by simp -dsimp (decide := true) (maxSteps := 1000000) (disch := first | omega | simp (decide := true) only [encqb0]) only [encqb5, ↓brun_b, envOf, reduceIte, Nat.reduceEqDiff, Nat.reduceAdd, Nat.reduceSub, Nat.reduceMul, Nat.reduceBEq, Nat.reduceLeDiff, Nat.reduceLT, Int.reduceToNat, rho, Frm.fc, frz1, ↓reduceIte]) (by simp -dsimp (decide := true) (maxSteps := 1000000) (disch := first | omega | simp (decide := true) only [encqb0]) only [encqc3, ↓brun_b, envOf, reduceIte, Nat.reduceEqDiff, Nat.reduceAdd, Nat.reduceSub, Nat.reduceMul, Nat.reduceBEq, Nat.reduceLeDiff, Nat.reduceLT, Int.reduceToNat]) ?_
  refine SemOps.go (k := 1000) ?_
  simp -dsimp (decide := true) (maxSteps := 1000000) (disch := first | omega | simp (decide := true) only [encqb0]) only [encqb1, ↓brun_b, envOf, reduceIte, Nat.reduceEqDiff, Nat.reduceAdd, Nat.reduceSub, Nat.reduceMul, Nat.reduceBEq, Nat.reduceLeDiff, Nat.reduceLT, Int.reduceToNat, rho, Frm.fc]
  have hE : bytesB F = A1 := by
    have hkk : F.k = 5 := by unfold Frm.k; rw [hk]; rfl
    have h0 : N 5 = form 5 := rfl
    unfold bytesB
    rw [hkk, ← hA1, ← hA, h0]
    simp only [bodyB, nB_nil, List.append_assoc, List.append_nil]
  rw [hE]
  unfold bytR
  refine SQ.runL (rs := [.tmp 2, .tmp 3]) [3] _ _ rfl (And.intro rfl rfl) (by decide) rfl rfl ?_ ?_
  · simp -dsimp (decide := true) (maxSteps := 1000000) (disch := first | omega | simp (decide := true) only [encqb0]) only [encqb5, ↓brun_b, envOf, reduceIte, Nat.reduceEqDiff, Nat.reduceAdd, Nat.reduceSub, Nat.reduceMul, Nat.reduceBEq, Nat.reduceLeDiff, Nat.reduceLT, Int.reduceToNat, rho, Frm.fc, frz1, ↓reduceIte]
  · simp -dsimp (decide := true) (maxSteps := 1000000) (disch := first | omega | simp (decide := true) only [encqb0]) only [encqb5, ↓brun_b, envOf, reduceIte, Nat.reduceEqDiff, Nat.reduceAdd, Nat.reduceSub, Nat.reduceMul, Nat.reduceBEq, Nat.reduceLeDiff, Nat.reduceLT, Int.reduceToNat, rho, Frm.fc, frz1, ↓reduceIte]
end Go.Proofs
