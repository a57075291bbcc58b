/- Contracts of functions that the laws reach, on abstract values, and what they need: no conditions but those that each theorem states. -/
import Derived.Test.YtheodenjjaoncaaOwnQ
set_option linter.unusedVariables false
set_option linter.unusedSimpArgs false
set_option linter.defProp false
namespace Go.Proofs
open Go Go.SL
set_option maxRecDepth 100000
def ownjc0 :=
  (aI (aI (aI (aI @FC.c_length @FC.part) (aI @FC.set_all (aI @Int.cast_ofNat_Int @List.replicate_succ.{0}))) (aI (aI @List.replicate_zero.{0} @SKren_row) (aI @after_mk (aI @al151 @beq_self_eq_true.{0})))) (aI (aI (aI @brun_a @cellAt_succ) (aI @cellAt_zero (aI @cond_false.{1} @cond_true.{1}))) (aI (aI @renL_cons (aI @renL_nil @ren_tup)) (aI @sop_inv (aI @tab.a151 @tab.s151)))))
def ownjb1 :=
  (aI (aI ownjc0 (aI @bwk_a @eq_self.{1})) (aI @forall_const.{1} (aI @implies_true.{0} @implies_true.{1})))
theorem frameNew_calls (F : Frm) (hw : F.wf) : Pure Try.prog 36 [.agg F.fc.c] (.v (.bool true)) := by
  by_cases h : encOk F = true
  · exact frameNew_good F hw h
  · have h8 : F.tr.length * 8 ≤ 140737488355328 := wfC hw
    have h9 : F.is.length * 16 ≤ 140737488355328 := wfD hw
    have h10 : F.tx.length ≤ 140737488355328 := wfB hw
    have h11 : F.val.length ≤ 140737488355328 := wfA hw
    have c0 := copy_own F h8 h9 h10 h11
    unfold OwnF at c0
    have c1 : Pure Try.prog 107 [.agg F.fc.c] (.agg F.fc.c) := SCall.tell [] c0 ⟨rfl, rfl, rfl, rfl, rfl, rfl, ⟨⟨_, rfl, ofc_given F 0 1 2 3 rfl rfl rfl rfl⟩, trivial⟩, trivial⟩
    have c2 := encode_pure F hw
    unfold eres encode at c2
    rw [if_neg h] at c2
    simp only at c2
    refine SCall.mk (fn := Try.f36) (by kernel_rfl) rfl (Nat.le_of_ble_eq_true (by kernel_rfl)) ?_
    refine goC ?_
    simp -dsimp +decide (disch := first | omega | simp +decide only [bdset_a, zF, zE, zH, zK, zD, FC.c_length, frmF_flat, frmc_one]) only [ownjc0, ↓brun_b, envOf, Nat.reduceBEq]
    refine SemOps.callq (k := 1000) cal.f107 (c1) rfl rfl rfl rfl (by simp only [bflat_a, frmF_flat]) (by simp only [bflat_a, frmF_flat]) (dK rfl) ?_
    simp -dsimp +decide (disch := first | omega | simp +decide only [bdset_a, zF, zE, zH, zK, zD, FC.c_length, frmF_flat, frmc_one]) only [ownjc0, ↓brun_b, Nat.reduceAdd, Nat.reduceBEq]
    refine SemOps.callq (k := 1000) cal.f114 (c2) rfl rfl rfl rfl (by simp only [bflat_a, frmF_flat]) (by simp only [bflat_a]) (dK rfl) ?_
    simp -dsimp +decide (disch := first | omega | simp +decide only [bdset_a, zF, zE, zH, zK, zD, FC.c_length, frmF_flat, frmc_one]) only [ownjc0, ↓brun_b, Nat.reduceAdd, Nat.reduceBEq]
    refine SemOps.callq (k := 1000) cal.f116 (fixed4_calls) rfl rfl rfl rfl (by simp only [bflat_a]) (by simp only [bflat_a]) (dK rfl) ?_
    simp -dsimp +decide (disch := first | omega | simp +decide only [bdset_a, zF, zE, zH, zK, zD, FC.c_length, frmF_flat, frmc_one]) only [ownjc0, ↓brun_b, Nat.reduceAdd]
    refine SQ.answer (rs := [.tmp 2]) rfl rfl ?_
    simp -dsimp +decide (disch := first | omega | simp +decide only [bdset_a, zF, zE, zH, zK, zD, FC.c_length, frmF_flat, frmc_one]) only [ownjb1, ↓brun_b, Nat.reduceAdd, rho]
theorem frameNew_law (l0 : List SV) (h0 : ClsC Try.prog 20 151 l0) : Pure Try.prog 36 [.agg l0] (.v (.bool true)) := by
  obtain ⟨F, rfl, hw⟩ := cls_frm h0
  exact frameNew_calls F hw
end Go.Proofs
