/- Contracts of functions that the laws reach, on abstract values, and what they need: no conditions but those that each theorem states. -/
import Derived.Test.YtheodenjjaoncaaQdcP
import Derived.Test.YtheodenjjaoncaaFraP
set_option linter.unusedVariables false
set_option linter.unusedSimpArgs false
set_option linter.defProp false
namespace Go.Proofs
open Go Go.SL
set_option maxRecDepth 100000
def qdcec0 :=
  (And.intro (And.intro (And.intro @FC.c_length (And.intro @FC.part @FC.set_all)) (And.intro (And.intro @Int.cast_ofNat_Int @List.replicate_succ.{0}) (And.intro @List.replicate_zero.{0} @SKren_row))) (And.intro (And.intro (And.intro @after_mk @al151) (And.intro @cellAt_succ @cellAt_zero)) (And.intro (And.intro @renL_cons @renL_nil) (And.intro @ren_tup @sop_inv))))
def qdcec1 :=
  (And.intro (And.intro (And.intro @beq_self_eq_true.{0} @brun_a) (And.intro @cond_false.{1} @cond_true.{1})) (And.intro (And.intro @tab.a151 @tab.s151) (And.intro @tab.u35 (And.intro @tab.u5 @tab.u9))))
def qdceb0 :=
  (And.intro qdcec0 qdcec1)
def qdceb2 :=
  (And.intro (And.intro qdcec0 (And.intro qdcec1 @bwk_a)) (And.intro (And.intro @eq_self.{1} @forall_const.{1}) (And.intro @implies_true.{0} @implies_true.{1})))
set_option maxHeartbeats 4000000 in
theorem frameDecodes_calls (b : List UInt8) (hb : b.length ≤ 140737488355328) : Pure Try.prog 30 [bsl b] (.v (.bool true)) := by
  have cD := decode_pure b hb
  have cQ := qdec_pure b hb
  unfold dres at cD cQ
  have hs : Pure Try.prog 104 [.agg (decode b).1.fc.c, .agg (decode b).1.fc.c] (.v (.bool true)) := by
    by_cases h : (decode b).2 = 0
    · rcases hd : decode b with ⟨F, e⟩
      rw [hd] at h
      simp only at h
      subst h
      obtain ⟨hg, hbb⟩ := decode_one b F hd
      have hw := good_wf F hg
      exact same_refl F (by have := hw.ltr; unfold reachBytes at this; omega) (by have := hw.lis; unfold reachBytes at this; omega)
    · have hz := decode_bad b h
      rw [hz]
      exact same_refl zFrm (by decide) (by decide)
  generalize (decode b).1 = F at *
  generalize (decode b).2 = e at *
  refine SCall.mk (fn := Try.f30) (by kernel_rfl) rfl (Nat.le_of_ble_eq_true (by kernel_rfl)) ?_
  refine Sem.go (k := 1000) ?_
  simp -dsimp (decide := true) (disch := first | omega | simp (decide := true) only [bdset_a, zF, zE, zH, zK, zD, FC.c_length, frmF_flat, frmc_one]) only [qdceb0, ↓brun_b, envOf, Nat.reduceBEq]
  refine SemOps.callq (k := 1000) cal.f117 (cD) rfl rfl rfl rfl (by simp only [bflat_a]) (by simp only [bflat_a, frmF_flat]) (by simp -dsimp (decide := true) (disch := first | omega | simp (decide := true) only [bdset_a, zF, zE, zH, zK, zD, FC.c_length, frmF_flat, frmc_one]) only [qdcec1]) ?_
  simp -dsimp (decide := true) (disch := first | omega | simp (decide := true) only [bdset_a, zF, zE, zH, zK, zD, FC.c_length, frmF_flat, frmc_one]) only [qdceb0, ↓brun_b, Nat.reduceBEq]
  refine SemOps.callq (k := 1000) cal.f118 (cQ) rfl rfl rfl rfl (by simp only [bflat_a]) (by simp only [bflat_a, frmF_flat]) (by simp -dsimp (decide := true) (disch := first | omega | simp (decide := true) only [bdset_a, zF, zE, zH, zK, zD, FC.c_length, frmF_flat, frmc_one]) only [qdcec1]) ?_
  simp -dsimp (decide := true) (disch := first | omega | simp (decide := true) only [bdset_a, zF, zE, zH, zK, zD, FC.c_length, frmF_flat, frmc_one]) only [qdceb0, ↓brun_b, Nat.reduceAdd, Nat.reduceBEq]
  refine SemOps.callq (k := 1000) cal.f116 (fixed4_calls) rfl rfl rfl rfl (by simp only [bflat_a]) (by simp only [bflat_a]) (by simp -dsimp (decide := true) (disch := first | omega | simp (decide := true) only [bdset_a, zF, zE, zH, zK, zD, FC.c_length, frmF_flat, frmc_one]) only [qdcec1]) ?_
  simp -dsimp (decide := true) (disch := first | omega | simp (decide := true) only [bdset_a, zF, zE, zH, zK, zD, FC.c_length, frmF_flat, frmc_one]) only [qdceb0, ↓brun_b, Nat.reduceAdd, Nat.reduceBEq]
  refine SemOps.callq (k := 1000) cal.f104 (hs) rfl rfl rfl rfl (by simp only [bflat_a, frmF_flat]) (by simp only [bflat_a]) (by simp -dsimp (decide := true) (disch := first | omega | simp (decide := true) only [bdset_a, zF, zE, zH, zK, zD, FC.c_length, frmF_flat, frmc_one]) only [qdcec1]) ?_
  simp -dsimp (decide := true) (disch := first | omega | simp (decide := true) only [bdset_a, zF, zE, zH, zK, zD, FC.c_length, frmF_flat, frmc_one]) only [qdceb0, ↓brun_b, Nat.reduceAdd, Nat.reduceBEq]
  refine SQ.answer (rs := [.tmp 2]) rfl rfl ?_
  simp -dsimp (decide := true) (disch := first | omega | simp (decide := true) only [bdset_a, zF, zE, zH, zK, zD, FC.c_length, frmF_flat, frmc_one]) only [qdceb2, ↓brun_b, Nat.reduceAdd, rho]
theorem frameDecodes_law (l0 : List SV) (h0 : ClsC Try.prog 20 35 l0) : Pure Try.prog 30 [cellAt l0 0] (.v (.bool true)) := by
  obtain ⟨b, rfl, hb⟩ := cls_bytes h0
  exact frameDecodes_calls b (by unfold reachBytes at hb; omega)
end Go.Proofs
