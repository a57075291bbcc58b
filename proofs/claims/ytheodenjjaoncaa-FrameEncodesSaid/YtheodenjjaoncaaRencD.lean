/- Contracts of functions that the laws reach, on abstract values, and what they need: no conditions but those that each theorem states. -/
import Derived.Test.YtheodenjjaoncaaRencP
set_option linter.unusedVariables false
set_option linter.unusedSimpArgs false
set_option linter.defProp false
namespace Go.Proofs
open Go Go.SL
set_option maxRecDepth 100000
def rencdc0 :=
  (aI (aI (aI @FC.c_length (aI @FC.part @FC.set_all)) (aI (aI @Int.cast_ofNat_Int @List.replicate_succ.{0}) (aI @List.replicate_zero.{0} @SKren_row))) (aI (aI (aI @after_mk @al151) (aI @cellAt_succ @cellAt_zero)) (aI (aI @renL_cons @renL_nil) (aI @ren_tup @sop_inv))))
def rencdc1 :=
  (aI (aI (aI @beq_self_eq_true.{0} @brun_a) (aI @cond_false.{1} @cond_true.{1})) (aI (aI @tab.a151 @tab.s151) (aI @tab.u35 (aI @tab.u5 @tab.u9))))
def rencdb0 :=
  (And.intro rencdc0 rencdc1)
def rencdb2 :=
  (aI (aI rencdc0 (aI rencdc1 @bwk_a)) (aI (aI @eq_self.{1} @forall_const.{1}) (aI @implies_true.{0} @implies_true.{1})))
set_option maxHeartbeats 4000000 in
theorem frameEncodes_calls (F : Frm) (hw : F.wf) : Pure Try.prog 29 [.agg F.fc.c] (.v (.bool true)) := by
  have cE := encode_pure F hw
  have cR := renc_pure F hw
  have h1 : F.tr.length < 4611686018427387904 := by have := hw.ltr; unfold reachBytes at this; omega
  have h2 : F.is.length < 4611686018427387904 := by have := hw.lis; unfold reachBytes at this; omega
  have hs := same_refl F h1 h2
  have hC := copyF_calls F (by have := hw.ltr; unfold reachBytes at this; omega) (by have := hw.lis; unfold reachBytes at this; omega) (by have := hw.ltx; unfold reachBytes at this; omega) (by have := hw.lval; unfold reachBytes at this; omega)
  unfold eres at cE cR
  generalize (encode F).1 = b at *
  generalize (encode F).2 = e at *
  refine SCall.mk (fn := Try.f29) (by kernel_rfl) rfl (Nat.le_of_ble_eq_true (by kernel_rfl)) ?_
  refine Sem.go (k := 1000) ?_
  simp -dsimp (decide := true) (disch := first | omega | simp (decide := true) only [bdset_a, zF, zE, zH, zK, zD, FC.c_length, frmF_flat, frmc_one]) only [rencdb0, ↓brun_b, envOf, Nat.reduceBEq]
  refine SemOps.callq (k := 1000) cal.f107 (hC) rfl rfl rfl rfl (by simp only [bflat_a, frmF_flat]) (by simp only [bflat_a, frmF_flat]) (by simp -dsimp (decide := true) (disch := first | omega | simp (decide := true) only [bdset_a, zF, zE, zH, zK, zD, FC.c_length, frmF_flat, frmc_one]) only [rencdc1]) ?_
  simp -dsimp (decide := true) (disch := first | omega | simp (decide := true) only [bdset_a, zF, zE, zH, zK, zD, FC.c_length, frmF_flat, frmc_one]) only [rencdb0, ↓brun_b, Nat.reduceAdd, Nat.reduceBEq]
  refine SemOps.callq (k := 1000) cal.f114 (cE) rfl rfl rfl rfl (by simp only [bflat_a, frmF_flat]) (by simp only [bflat_a]) (by simp -dsimp (decide := true) (disch := first | omega | simp (decide := true) only [bdset_a, zF, zE, zH, zK, zD, FC.c_length, frmF_flat, frmc_one]) only [rencdc1]) ?_
  simp -dsimp (decide := true) (disch := first | omega | simp (decide := true) only [bdset_a, zF, zE, zH, zK, zD, FC.c_length, frmF_flat, frmc_one]) only [rencdb0, ↓brun_b, Nat.reduceAdd, Nat.reduceBEq]
  refine SemOps.callq (k := 1000) cal.f115 (cR) rfl rfl rfl rfl (by simp only [bflat_a, frmF_flat]) (by simp only [bflat_a]) (by simp -dsimp (decide := true) (disch := first | omega | simp (decide := true) only [bdset_a, zF, zE, zH, zK, zD, FC.c_length, frmF_flat, frmc_one]) only [rencdc1]) ?_
  simp -dsimp (decide := true) (disch := first | omega | simp (decide := true) only [bdset_a, zF, zE, zH, zK, zD, FC.c_length, frmF_flat, frmc_one]) only [rencdb0, ↓brun_b, Nat.reduceAdd, Nat.reduceBEq]
  refine SemOps.callq (k := 1000) cal.f116 (fixed4_calls) rfl rfl rfl rfl (by simp only [bflat_a]) (by simp only [bflat_a]) (by simp -dsimp (decide := true) (disch := first | omega | simp (decide := true) only [bdset_a, zF, zE, zH, zK, zD, FC.c_length, frmF_flat, frmc_one]) only [rencdc1]) ?_
  simp -dsimp (decide := true) (disch := first | omega | simp (decide := true) only [bdset_a, zF, zE, zH, zK, zD, FC.c_length, frmF_flat, frmc_one]) only [rencdb0, ↓brun_b, Nat.reduceAdd, Nat.reduceBEq]
  refine SemOps.callq (k := 1000) cal.f104 (hs) rfl rfl rfl rfl (by simp only [bflat_a, frmF_flat]) (by simp only [bflat_a]) (by simp -dsimp (decide := true) (disch := first | omega | simp (decide := true) only [bdset_a, zF, zE, zH, zK, zD, FC.c_length, frmF_flat, frmc_one]) only [rencdc1]) ?_
  simp -dsimp (decide := true) (disch := first | omega | simp (decide := true) only [bdset_a, zF, zE, zH, zK, zD, FC.c_length, frmF_flat, frmc_one]) only [rencdb0, ↓brun_b, Nat.reduceAdd, Nat.reduceBEq]
  refine SQ.answer (rs := [.tmp 2]) rfl rfl ?_
  simp -dsimp (decide := true) (disch := first | omega | simp (decide := true) only [bdset_a, zF, zE, zH, zK, zD, FC.c_length, frmF_flat, frmc_one]) only [rencdb2, ↓brun_b, Nat.reduceAdd, rho]
theorem frameEncodes_law (l0 : List SV) (h0 : ClsC Try.prog 20 151 l0) : Pure Try.prog 29 [.agg l0] (.v (.bool true)) := by
  obtain ⟨F, rfl, hw⟩ := cls_frm h0
  exact frameEncodes_calls F hw
end Go.Proofs
