/- Contracts of functions that the laws reach, on abstract values, and what they need: no conditions but those that each theorem states. -/
import Derived.Test.YtheodenjjaoncaaFraP
set_option linter.unusedVariables false
set_option linter.unusedSimpArgs false
set_option linter.defProp false
namespace Go.Proofs
open Go Go.SL
set_option maxRecDepth 100000
theorem u64_nn (x : Int) : 0 ≤ IntKind.u64.wrap x := by
  unfold IntKind.wrap
  simp only [IntKind.bits, IntKind.signed]
  have := Int.emod_nonneg x (show (2 ^ 64 : Int) ≠ 0 by decide)
  simpa using this
def fradc0 :=
  (And.intro (And.intro (And.intro @FC.c_length (And.intro @FC.part @FC.set_all)) (And.intro (And.intro @Int.cast_ofNat_Int @List.replicate_succ.{0}) (And.intro @List.replicate_zero.{0} @SKren_row))) (And.intro (And.intro (And.intro @after_mk @al151) (And.intro @cellAt_succ @cellAt_zero)) (And.intro (And.intro @renL_cons @renL_nil) (And.intro @ren_tup @sop_inv))))
def fradc1 :=
  (And.intro (And.intro (And.intro @beq_self_eq_true.{0} @brun_a) (And.intro @cond_false.{1} (And.intro @cond_true.{1} @tab.a151))) (And.intro (And.intro @tab.s151 @tab.s5) (And.intro @tab.u3 (And.intro @tab.u35 @tab.u75))))
def fradb0 :=
  (And.intro fradc0 fradc1)
def fradb2 :=
  (And.intro (And.intro fradc0 (And.intro fradc1 @bwk_a)) (And.intro (And.intro @eq_self.{1} @forall_const.{1}) (And.intro @implies_true.{0} @implies_true.{1})))
set_option maxHeartbeats 4000000 in
theorem frameCuts_calls (F : Frm) (hw : F.wf) (cut : Int) : Pure Try.prog 34 [.agg F.fc.c, .v (.int .i64 cut)] (.v (.bool true)) := by
  have cE := encode_pure F hw
  unfold eres encode at cE
  by_cases h : encOk F = true
  · rw [if_pos h] at cE
    have hg := (encOk_good F hw).1 h
    have hl := bytes_len F hg
    have hpos : 0 < (bytesB F).length := by unfold bytesB; rw [List.length_append, form_length]; omega
    have hcut := decode_cut F hg
    generalize bytesB F = b at *
    simp only at cE
    have hd0 : decide ((b.length : Int) = 0) = false := decide_eq_false (by omega)
    have hwl : IntKind.u64.wrap (b.length : Int) = (b.length : Int) := wrap_u64 _ (by omega)
    have hu : 0 ≤ IntKind.u64.wrap cut := u64_nn cut
    have ht0 : (IntKind.u64.wrap cut).tmod (b.length : Int) = IntKind.u64.wrap cut % (b.length : Int) := Int.tmod_eq_emod_of_nonneg hu
    have ht1 := Int.emod_nonneg (IntKind.u64.wrap cut) (show (b.length : Int) ≠ 0 by omega)
    have ht2 := Int.emod_lt_of_pos (IntKind.u64.wrap cut) (show 0 < (b.length : Int) by omega)
    obtain ⟨m, hm⟩ : ∃ m : Nat, IntKind.u64.wrap cut % (b.length : Int) = (m : Int) := ⟨(IntKind.u64.wrap cut % (b.length : Int)).toNat, by omega⟩
    have hmw : IntKind.i64.wrap ((IntKind.u64.wrap cut).tmod (b.length : Int)) = (m : Int) := by rw [ht0, hm]; exact wrap_i64 _ (by omega)
    have hdec := hcut (b.take m) (b.drop m) (List.take_append_drop m b).symm (fun e => by
      have := congrArg List.length e
      rw [List.length_drop, List.length_nil] at this
      omega)
    have cD := decode_pure (b.take m) (by rw [List.length_take]; omega)
    unfold dres at cD
    rw [hdec] at cD
    simp only at cD
    refine SCall.mk (fn := Try.f34) (by kernel_rfl) rfl (Nat.le_of_ble_eq_true (by kernel_rfl)) ?_
    refine Sem.go (k := 1000) ?_
    simp -dsimp (decide := true) (disch := first | omega | simp (decide := true) only [bdset_a, zF, zE, zH, zK, zD, FC.c_length, frmF_flat, frmc_one]) only [fradb0, ↓brun_b, envOf, Nat.reduceBEq]
    refine SemOps.callq (k := 1000) cal.f114 (cE) rfl rfl rfl rfl (by simp only [bflat_a, frmF_flat]) (by simp only [bflat_a]) (by simp -dsimp (decide := true) (disch := first | omega | simp (decide := true) only [bdset_a, zF, zE, zH, zK, zD, FC.c_length, frmF_flat, frmc_one]) only [fradc1]) ?_
    simp -dsimp (decide := true) (disch := first | omega | simp (decide := true) only [bdset_a, zF, zE, zH, zK, zD, FC.c_length, frmF_flat, frmc_one]) only [fradb0, ↓brun_b, Nat.reduceBEq, hd0, hwl, hmw]
    refine And.intro (by omega) (And.intro (And.intro (by omega) (by omega)) ?_)
    refine SemOps.callq (k := 1000) cal.f117 (cD) rfl rfl rfl rfl (by simp only [bflat_a]) (by simp only [bflat_a, frmF_flat]) (by simp -dsimp (decide := true) (disch := first | omega | simp (decide := true) only [bdset_a, zF, zE, zH, zK, zD, FC.c_length, frmF_flat, frmc_one]) only [fradc1]) ?_
    simp -dsimp (decide := true) (disch := first | omega | simp (decide := true) only [bdset_a, zF, zE, zH, zK, zD, FC.c_length, frmF_flat, frmc_one]) only [fradb0, ↓brun_b, Nat.reduceAdd, Nat.reduceBEq]
    refine SemOps.callq (k := 1000) cal.f116 (fixed4_calls) rfl rfl rfl rfl (by simp only [bflat_a]) (by simp only [bflat_a]) (by simp -dsimp (decide := true) (disch := first | omega | simp (decide := true) only [bdset_a, zF, zE, zH, zK, zD, FC.c_length, frmF_flat, frmc_one]) only [fradc1]) ?_
    simp -dsimp (decide := true) (disch := first | omega | simp (decide := true) only [bdset_a, zF, zE, zH, zK, zD, FC.c_length, frmF_flat, frmc_one]) only [fradb0, ↓brun_b, Nat.reduceAdd, Nat.reduceBEq]
    refine SQ.answer (rs := [.tmp 4]) rfl rfl ?_
    simp -dsimp (decide := true) (disch := first | omega | simp (decide := true) only [bdset_a, zF, zE, zH, zK, zD, FC.c_length, frmF_flat, frmc_one]) only [fradb2, ↓brun_b, Nat.reduceAdd, rho]
  · rw [if_neg h] at cE
    simp only at cE
    refine SCall.mk (fn := Try.f34) (by kernel_rfl) rfl (Nat.le_of_ble_eq_true (by kernel_rfl)) ?_
    refine Sem.go (k := 1000) ?_
    simp -dsimp (decide := true) (disch := first | omega | simp (decide := true) only [bdset_a, zF, zE, zH, zK, zD, FC.c_length, frmF_flat, frmc_one]) only [fradb0, ↓brun_b, envOf, Nat.reduceBEq]
    refine SemOps.callq (k := 1000) cal.f114 (cE) rfl rfl rfl rfl (by simp only [bflat_a, frmF_flat]) (by simp only [bflat_a]) (by simp -dsimp (decide := true) (disch := first | omega | simp (decide := true) only [bdset_a, zF, zE, zH, zK, zD, FC.c_length, frmF_flat, frmc_one]) only [fradc1]) ?_
    simp -dsimp (decide := true) (disch := first | omega | simp (decide := true) only [bdset_a, zF, zE, zH, zK, zD, FC.c_length, frmF_flat, frmc_one]) only [fradb0, ↓brun_b, Nat.reduceBEq]
    refine SemOps.callq (k := 1000) cal.f116 (fixed4_calls) rfl rfl rfl rfl (by simp only [bflat_a]) (by simp only [bflat_a]) (by simp -dsimp (decide := true) (disch := first | omega | simp (decide := true) only [bdset_a, zF, zE, zH, zK, zD, FC.c_length, frmF_flat, frmc_one]) only [fradc1]) ?_
    simp -dsimp (decide := true) (disch := first | omega | simp (decide := true) only [bdset_a, zF, zE, zH, zK, zD, FC.c_length, frmF_flat, frmc_one]) only [fradb0, ↓brun_b]
    refine SQ.answer (rs := [.tmp 4]) rfl rfl ?_
    simp -dsimp (decide := true) (disch := first | omega | simp (decide := true) only [bdset_a, zF, zE, zH, zK, zD, FC.c_length, frmF_flat, frmc_one]) only [fradb2, ↓brun_b, rho]
theorem frameCuts_law (l0 l1 : List SV) (h0 : ClsC Try.prog 20 151 l0) (h1 : ClsC Try.prog 20 3 l1) : Pure Try.prog 34 [.agg l0, cellAt l1 0] (.v (.bool true)) := by
  obtain ⟨F, rfl, hw⟩ := cls_frm h0
  obtain ⟨x, rfl, _, _⟩ := cls_int64 tab.u3 h1
  exact frameCuts_calls F hw x
end Go.Proofs
