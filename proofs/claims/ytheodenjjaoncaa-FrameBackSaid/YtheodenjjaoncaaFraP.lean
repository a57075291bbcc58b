/- Contracts of functions that the laws reach, on abstract values, and what they need: no conditions but those that each theorem states. -/
import Derived.Test.YtheodenjjaoncaaFixP
import Derived.Test.YtheodenjjaoncaaEncR
import Derived.Test.YtheodenjjaoncaaDecP2
set_option linter.unusedVariables false
set_option linter.unusedSimpArgs false
set_option linter.defProp false
namespace Go.Proofs
open Go Go.SL
set_option maxRecDepth 100000
theorem bytes_len (F : Frm) (h : good F) : (bytesB F).length ≤ 100000 := by
  obtain ⟨h1, h2, hf, _⟩ := h
  have hkk := form_le F.k (by omega)
  unfold bytesB
  have : F.k = 1 ∨ F.k = 2 ∨ F.k = 3 ∨ F.k = 4 ∨ F.k = 5 ∨ F.k = 6 ∨ F.k = 7 ∨ F.k = 8 ∨ F.k = 9 ∨ F.k = 10 ∨ F.k = 11 ∨ F.k = 12 := by omega
  rcases this with e | e | e | e | e | e | e | e | e | e | e | e <;> rw [e] at hf hkk ⊢ <;> simp only [fits] at hf
  · have n_fi := N_le F.fi (by omega); have n_fn := N_le F.fn (by omega); have n_ti := N_le F.ti (by omega); have n_tn := N_le F.tn (by omega)
    simp only [bodyB, List.length_append, iB_length]
    omega
  · have n_fi := N_le F.fi (by omega); have n_fn := N_le F.fn (by omega); have n_ti := N_le F.ti (by omega); have n_tn := N_le F.tn (by omega); have n_n := N_le F.n (by omega); have f_tx := form_le F.tx.length (by omega)
    simp only [bodyB, List.length_append, txB]
    omega
  · have n_fi := N_le F.fi (by omega); have n_fn := N_le F.fn (by omega); have n_ti := N_le F.ti (by omega); have n_tn := N_le F.tn (by omega); have n_n := N_le F.n (by omega)
    simp only [bodyB, List.length_append]
    omega
  · have n_pn := N_le F.pn (by omega); have htr : ∀ v ∈ F.tr, 0 ≤ v ∧ v < 6 := hf.2.2; have l_tr := legB_len F.tr (fun v hv => by have := htr v hv; omega); have f_tr := form_le F.tr.length (by omega)
    simp only [bodyB, List.length_append, iB_length]
    omega
  · have n_pn := N_le F.pn (by omega)
    simp only [bodyB, List.length_append, iB_length]
    omega
  · have n_pn := N_le F.pn (by omega); have f_fl : (flB F.toA).length ≤ 9 := by cases F.toA <;> decide
    simp only [bodyB, List.length_append, iB_length]
    omega
  · have n_pn := N_le F.pn (by omega); have l_is := idsB_length F.is; have f_is := form_le F.is.length (by omega); have f_fl : (flB F.toA).length ≤ 9 := by cases F.toA <;> decide
    simp only [bodyB, List.length_append, iB_length]
    omega
  · have n_pn := N_le F.pn (by omega); have n_op := N_le F.op (by omega); have htr : ∀ v ∈ F.tr, 0 ≤ v ∧ v < 6 := hf.2.1.2; have l_tr := legB_len F.tr (fun v hv => by have := htr v hv; omega); have f_tr := form_le F.tr.length (by omega); have f_fl : (flB F.toA).length ≤ 9 := by cases F.toA <;> decide
    simp only [bodyB, List.length_append, iB_length]
    omega
  · have n_n := N_le F.n (by omega)
    simp only [bodyB, List.length_append, iB_length]
    omega
  · have n_n := N_le F.n (by omega); have n_vn := N_le F.vn (by omega); have n_op := N_le F.op (by omega); have n_ttl := N_le F.ttl (by omega); have f_tx := form_le F.tx.length (by omega); have f_val := form_le F.val.length (by omega)
    simp only [bodyB, List.length_append, iB_length, txB]
    omega
  · have n_pn := N_le F.pn (by omega); have n_vn := N_le F.vn (by omega); have f_val := form_le F.val.length (by omega); have f_fl : (flB F.toA).length ≤ 9 := by cases F.toA <;> decide
    simp only [bodyB, List.length_append, iB_length, txB]
    omega
  · have n_pn := N_le F.pn (by omega); have n_vn := N_le F.vn (by omega); have f_fl : (flB F.toA).length ≤ 9 := by cases F.toA <;> decide
    simp only [bodyB, List.length_append, iB_length]
    omega
end Go.Proofs
namespace Go.Proofs
open Go Go.SL
set_option maxRecDepth 100000
def frapc0 :=
  (And.intro (And.intro (And.intro @FC.c_length (And.intro @FC.part @FC.set_all)) (And.intro (And.intro @Int.cast_ofNat_Int @List.replicate_succ.{0}) (And.intro @List.replicate_zero.{0} @SKren_row))) (And.intro (And.intro (And.intro @after_mk @al151) (And.intro @cellAt_succ @cellAt_zero)) (And.intro (And.intro @renL_cons @renL_nil) (And.intro @ren_tup @sop_inv))))
def frapc1 :=
  (And.intro (And.intro @beq_self_eq_true.{0} (And.intro @brun_a @cond_false.{1})) (And.intro (And.intro @cond_true.{1} @tab.a151) (And.intro @tab.s151 @tab.u35)))
def frapb0 :=
  (And.intro frapc0 frapc1)
def frapb2 :=
  (And.intro (And.intro frapc0 (And.intro frapc1 @bwk_a)) (And.intro (And.intro @eq_self.{1} @forall_const.{1}) (And.intro @implies_true.{0} @implies_true.{1})))
def frapb3 :=
  (And.intro frapc0 (And.intro frapc1 @brows_nil))
set_option maxHeartbeats 4000000 in
theorem frameBack_calls (F : Frm) (hw : F.wf) : Pure Try.prog 32 [.agg F.fc.c] (.v (.bool true)) := by
  have cE := encode_pure F hw
  have h1 : F.tr.length < 4611686018427387904 := by have := hw.ltr; unfold reachBytes at this; omega
  have h2 : F.is.length < 4611686018427387904 := by have := hw.lis; unfold reachBytes at this; omega
  have hsame := same_refl F h1 h2
  unfold eres encode at cE
  by_cases h : encOk F = true
  · rw [if_pos h] at cE
    have hg := (encOk_good F hw).1 h
    have hl := bytes_len F hg
    have cD := decode_pure (bytesB F) (by omega)
    unfold dres at cD
    rw [decode_bytes F hg] at cD
    generalize bytesB F = b at *
    simp only at cE cD
    refine SCall.mk (fn := Try.f32) (by kernel_rfl) rfl (Nat.le_of_ble_eq_true (by kernel_rfl)) ?_
    refine Sem.go (k := 1000) ?_
    simp -dsimp (decide := true) (disch := first | omega | simp (decide := true) only [bdset_a, zF, zE, zH, zK, zD, FC.c_length, frmF_flat, frmc_one]) only [frapb0, ↓brun_b, envOf, Nat.reduceBEq]
    refine SemOps.callq (k := 1000) cal.f114 (cE) rfl rfl rfl rfl (by simp only [bflat_a, frmF_flat]) (by simp only [bflat_a]) (by simp -dsimp (decide := true) (disch := first | omega | simp (decide := true) only [bdset_a, zF, zE, zH, zK, zD, FC.c_length, frmF_flat, frmc_one]) only [frapc1]) ?_
    simp -dsimp (decide := true) (disch := first | omega | simp (decide := true) only [bdset_a, zF, zE, zH, zK, zD, FC.c_length, frmF_flat, frmc_one]) only [frapb0, ↓brun_b, Nat.reduceBEq]
    refine SemOps.callq (k := 1000) cal.f117 (cD) rfl rfl rfl rfl (by simp only [bflat_a]) (by simp only [bflat_a, frmF_flat]) (by simp -dsimp (decide := true) (disch := first | omega | simp (decide := true) only [bdset_a, zF, zE, zH, zK, zD, FC.c_length, frmF_flat, frmc_one]) only [frapc1]) ?_
    simp -dsimp (decide := true) (disch := first | omega | simp (decide := true) only [bdset_a, zF, zE, zH, zK, zD, FC.c_length, frmF_flat, frmc_one]) only [frapb0, ↓brun_b, Nat.reduceAdd, Nat.reduceBEq]
    refine SemOps.callq (k := 1000) cal.f116 (fixed4_calls) rfl rfl rfl rfl (by simp only [bflat_a]) (by simp only [bflat_a]) (by simp -dsimp (decide := true) (disch := first | omega | simp (decide := true) only [bdset_a, zF, zE, zH, zK, zD, FC.c_length, frmF_flat, frmc_one]) only [frapc1]) ?_
    simp -dsimp (decide := true) (disch := first | omega | simp (decide := true) only [bdset_a, zF, zE, zH, zK, zD, FC.c_length, frmF_flat, frmc_one]) only [frapb0, ↓brun_b, Nat.reduceAdd, Nat.reduceBEq]
    refine SemOps.callq (k := 1000) cal.f104 (hsame) rfl rfl rfl rfl (by simp only [bflat_a, frmF_flat]) (by simp only [bflat_a]) (by simp -dsimp (decide := true) (disch := first | omega | simp (decide := true) only [bdset_a, zF, zE, zH, zK, zD, FC.c_length, frmF_flat, frmc_one]) only [frapc1]) ?_
    simp -dsimp (decide := true) (disch := first | omega | simp (decide := true) only [bdset_a, zF, zE, zH, zK, zD, FC.c_length, frmF_flat, frmc_one]) only [frapb0, ↓brun_b, Nat.reduceAdd, Nat.reduceBEq]
    refine SQ.answer (rs := [.tmp 2]) rfl rfl ?_
    simp -dsimp (decide := true) (disch := first | omega | simp (decide := true) only [bdset_a, zF, zE, zH, zK, zD, FC.c_length, frmF_flat, frmc_one]) only [frapb2, ↓brun_b, Nat.reduceAdd, rho]
  · rw [if_neg h] at cE
    simp only at cE
    refine SCall.mk (fn := Try.f32) (by kernel_rfl) rfl (Nat.le_of_ble_eq_true (by kernel_rfl)) ?_
    refine Sem.go (k := 1000) ?_
    simp -dsimp (decide := true) (disch := first | omega | simp (decide := true) only [bdset_a, zF, zE, zH, zK, zD, FC.c_length, frmF_flat, frmc_one]) only [frapb0, ↓brun_b, envOf, Nat.reduceBEq]
    refine SemOps.callq (k := 1000) cal.f114 (cE) rfl rfl rfl rfl (by simp only [bflat_a, frmF_flat]) (by simp only [bflat_a]) (by simp -dsimp (decide := true) (disch := first | omega | simp (decide := true) only [bdset_a, zF, zE, zH, zK, zD, FC.c_length, frmF_flat, frmc_one]) only [frapc1]) ?_
    simp -dsimp (decide := true) (disch := first | omega | simp (decide := true) only [bdset_a, zF, zE, zH, zK, zD, FC.c_length, frmF_flat, frmc_one]) only [frapb0, ↓brun_b, Nat.reduceBEq]
    refine SemOps.callq (k := 1000) cal.f116 (fixed4_calls) rfl rfl rfl rfl (by simp only [bflat_a]) (by simp only [bflat_a]) (by simp -dsimp (decide := true) (disch := first | omega | simp (decide := true) only [bdset_a, zF, zE, zH, zK, zD, FC.c_length, frmF_flat, frmc_one]) only [frapc1]) ?_
    simp -dsimp (decide := true) (disch := first | omega | simp (decide := true) only [bdset_a, zF, zE, zH, zK, zD, FC.c_length, frmF_flat, frmc_one]) only [frapb3, ↓brun_b, Nat.reduceBEq]
    refine SQ.answer (rs := [.tmp 2]) rfl rfl ?_
    simp -dsimp (decide := true) (disch := first | omega | simp (decide := true) only [bdset_a, zF, zE, zH, zK, zD, FC.c_length, frmF_flat, frmc_one]) only [frapb2, ↓brun_b, rho]
theorem frameBack_law (l0 : List SV) (h0 : ClsC Try.prog 20 151 l0) : Pure Try.prog 32 [.agg l0] (.v (.bool true)) := by
  obtain ⟨F, rfl, hw⟩ := cls_frm h0
  exact frameBack_calls F hw
end Go.Proofs
