/- Contracts of functions that the laws reach, on abstract values, and what they need: no conditions but those that each theorem states. -/
import Derived.Test.YtheodenjjaoncaaFixP
import Derived.Test.YtheodenjjaoncaaEncR
import Derived.Test.YtheodenjjaoncaaDecP2
set_option linter.unusedVariables false
set_option linter.unusedSimpArgs false
set_option linter.defProp false
namespace Go.Proofs
open Go Go.SL
set_option maxRecDepth 100000
theorem zF_entF {fz : Nat → Option SB} {ρ : Nat → Nat} : EntL fz ρ zFrm.fc.c zF.c = True := eq_true zF_ent
theorem good_wf (F : Frm) (h : good F) : F.wf := by
  obtain ⟨h1, h2, hf, hb⟩ := h
  have hk : I64 F.kind := by
    have := k_cases ⟨h1, h2⟩
    unfold I64
    omega
  have : F.k = 1 ∨ F.k = 2 ∨ F.k = 3 ∨ F.k = 4 ∨ F.k = 5 ∨ F.k = 6 ∨ F.k = 7 ∨ F.k = 8 ∨ F.k = 9 ∨ F.k = 10 ∨ F.k = 11 ∨ F.k = 12 := by omega
  rcases this with e | e | e | e | e | e | e | e | e | e | e | e <;> rw [e] at hf hb <;> simp only [fits] at hf
  · have z_pn : F.pn = 0 := (by rw [hb]; rfl); have z_n : F.n = 0 := (by rw [hb]; rfl); have z_vn : F.vn = 0 := (by rw [hb]; rfl); have z_op : F.op = 0 := (by rw [hb]; rfl); have z_ttl : F.ttl = 0 := (by rw [hb]; rfl); have z_tr : F.tr.length = 0 := (by rw [hb]; rfl); have z_is : F.is.length = 0 := (by rw [hb]; rfl); have z_val : F.val.length = 0 := (by rw [hb]; rfl); have z_tx : F.tx.length = 0 := (by rw [hb]; rfl)
    exact ⟨hk, (by unfold I64; omega), (by unfold I64; omega), (by unfold I64; omega), (by unfold I64; omega), (by unfold I64; omega), (by unfold I64; omega), fun m hm => (by rw [List.length_eq_zero_iff] at z_tr; rw [z_tr] at hm; cases hm), (by unfold I64; omega), (by unfold I64; omega), (by unfold I64; omega), (by unfold reachBytes; omega), (by unfold reachBytes; omega), (by unfold reachBytes; omega), (by unfold reachBytes; omega)⟩
  · have z_pn : F.pn = 0 := (by rw [hb]; rfl); have z_vn : F.vn = 0 := (by rw [hb]; rfl); have z_op : F.op = 0 := (by rw [hb]; rfl); have z_ttl : F.ttl = 0 := (by rw [hb]; rfl); have z_tr : F.tr.length = 0 := (by rw [hb]; rfl); have z_is : F.is.length = 0 := (by rw [hb]; rfl); have z_val : F.val.length = 0 := (by rw [hb]; rfl)
    exact ⟨hk, (by unfold I64; omega), (by unfold I64; omega), (by unfold I64; omega), (by unfold I64; omega), (by unfold I64; omega), (by unfold I64; omega), fun m hm => (by rw [List.length_eq_zero_iff] at z_tr; rw [z_tr] at hm; cases hm), (by unfold I64; omega), (by unfold I64; omega), (by unfold I64; omega), (by unfold reachBytes; omega), (by unfold reachBytes; omega), (by unfold reachBytes; omega), (by unfold reachBytes; omega)⟩
  · have z_pn : F.pn = 0 := (by rw [hb]; rfl); have z_vn : F.vn = 0 := (by rw [hb]; rfl); have z_op : F.op = 0 := (by rw [hb]; rfl); have z_ttl : F.ttl = 0 := (by rw [hb]; rfl); have z_tr : F.tr.length = 0 := (by rw [hb]; rfl); have z_is : F.is.length = 0 := (by rw [hb]; rfl); have z_val : F.val.length = 0 := (by rw [hb]; rfl); have z_tx : F.tx.length = 0 := (by rw [hb]; rfl)
    exact ⟨hk, (by unfold I64; omega), (by unfold I64; omega), (by unfold I64; omega), (by unfold I64; omega), (by unfold I64; omega), (by unfold I64; omega), fun m hm => (by rw [List.length_eq_zero_iff] at z_tr; rw [z_tr] at hm; cases hm), (by unfold I64; omega), (by unfold I64; omega), (by unfold I64; omega), (by unfold reachBytes; omega), (by unfold reachBytes; omega), (by unfold reachBytes; omega), (by unfold reachBytes; omega)⟩
  · have z_n : F.n = 0 := (by rw [hb]; rfl); have z_fi : F.fi = 0 := (by rw [hb]; rfl); have z_fn : F.fn = 0 := (by rw [hb]; rfl); have z_ti : F.ti = 0 := (by rw [hb]; rfl); have z_tn : F.tn = 0 := (by rw [hb]; rfl); have z_vn : F.vn = 0 := (by rw [hb]; rfl); have z_op : F.op = 0 := (by rw [hb]; rfl); have z_ttl : F.ttl = 0 := (by rw [hb]; rfl); have z_is : F.is.length = 0 := (by rw [hb]; rfl); have z_val : F.val.length = 0 := (by rw [hb]; rfl); have z_tx : F.tx.length = 0 := (by rw [hb]; rfl)
    have htr : ∀ v ∈ F.tr, 0 ≤ v ∧ v < 6 := hf.2.2
    exact ⟨hk, (by unfold I64; omega), (by unfold I64; omega), (by unfold I64; omega), (by unfold I64; omega), (by unfold I64; omega), (by unfold I64; omega), fun m hm => (by have := htr m hm; unfold I64; omega), (by unfold I64; omega), (by unfold I64; omega), (by unfold I64; omega), (by unfold reachBytes; omega), (by unfold reachBytes; omega), (by unfold reachBytes; omega), (by unfold reachBytes; omega)⟩
  · have z_n : F.n = 0 := (by rw [hb]; rfl); have z_fi : F.fi = 0 := (by rw [hb]; rfl); have z_fn : F.fn = 0 := (by rw [hb]; rfl); have z_ti : F.ti = 0 := (by rw [hb]; rfl); have z_tn : F.tn = 0 := (by rw [hb]; rfl); have z_vn : F.vn = 0 := (by rw [hb]; rfl); have z_op : F.op = 0 := (by rw [hb]; rfl); have z_ttl : F.ttl = 0 := (by rw [hb]; rfl); have z_tr : F.tr.length = 0 := (by rw [hb]; rfl); have z_is : F.is.length = 0 := (by rw [hb]; rfl); have z_val : F.val.length = 0 := (by rw [hb]; rfl); have z_tx : F.tx.length = 0 := (by rw [hb]; rfl)
    exact ⟨hk, (by unfold I64; omega), (by unfold I64; omega), (by unfold I64; omega), (by unfold I64; omega), (by unfold I64; omega), (by unfold I64; omega), fun m hm => (by rw [List.length_eq_zero_iff] at z_tr; rw [z_tr] at hm; cases hm), (by unfold I64; omega), (by unfold I64; omega), (by unfold I64; omega), (by unfold reachBytes; omega), (by unfold reachBytes; omega), (by unfold reachBytes; omega), (by unfold reachBytes; omega)⟩
  · have z_n : F.n = 0 := (by rw [hb]; rfl); have z_fi : F.fi = 0 := (by rw [hb]; rfl); have z_fn : F.fn = 0 := (by rw [hb]; rfl); have z_ti : F.ti = 0 := (by rw [hb]; rfl); have z_tn : F.tn = 0 := (by rw [hb]; rfl); have z_vn : F.vn = 0 := (by rw [hb]; rfl); have z_op : F.op = 0 := (by rw [hb]; rfl); have z_ttl : F.ttl = 0 := (by rw [hb]; rfl); have z_tr : F.tr.length = 0 := (by rw [hb]; rfl); have z_is : F.is.length = 0 := (by rw [hb]; rfl); have z_val : F.val.length = 0 := (by rw [hb]; rfl); have z_tx : F.tx.length = 0 := (by rw [hb]; rfl)
    exact ⟨hk, (by unfold I64; omega), (by unfold I64; omega), (by unfold I64; omega), (by unfold I64; omega), (by unfold I64; omega), (by unfold I64; omega), fun m hm => (by rw [List.length_eq_zero_iff] at z_tr; rw [z_tr] at hm; cases hm), (by unfold I64; omega), (by unfold I64; omega), (by unfold I64; omega), (by unfold reachBytes; omega), (by unfold reachBytes; omega), (by unfold reachBytes; omega), (by unfold reachBytes; omega)⟩
  · have z_n : F.n = 0 := (by rw [hb]; rfl); have z_fi : F.fi = 0 := (by rw [hb]; rfl); have z_fn : F.fn = 0 := (by rw [hb]; rfl); have z_ti : F.ti = 0 := (by rw [hb]; rfl); have z_tn : F.tn = 0 := (by rw [hb]; rfl); have z_vn : F.vn = 0 := (by rw [hb]; rfl); have z_op : F.op = 0 := (by rw [hb]; rfl); have z_ttl : F.ttl = 0 := (by rw [hb]; rfl); have z_tr : F.tr.length = 0 := (by rw [hb]; rfl); have z_val : F.val.length = 0 := (by rw [hb]; rfl); have z_tx : F.tx.length = 0 := (by rw [hb]; rfl)
    exact ⟨hk, (by unfold I64; omega), (by unfold I64; omega), (by unfold I64; omega), (by unfold I64; omega), (by unfold I64; omega), (by unfold I64; omega), fun m hm => (by rw [List.length_eq_zero_iff] at z_tr; rw [z_tr] at hm; cases hm), (by unfold I64; omega), (by unfold I64; omega), (by unfold I64; omega), (by unfold reachBytes; omega), (by unfold reachBytes; omega), (by unfold reachBytes; omega), (by unfold reachBytes; omega)⟩
  · have z_n : F.n = 0 := (by rw [hb]; rfl); have z_fi : F.fi = 0 := (by rw [hb]; rfl); have z_fn : F.fn = 0 := (by rw [hb]; rfl); have z_ti : F.ti = 0 := (by rw [hb]; rfl); have z_tn : F.tn = 0 := (by rw [hb]; rfl); have z_vn : F.vn = 0 := (by rw [hb]; rfl); have z_ttl : F.ttl = 0 := (by rw [hb]; rfl); have z_is : F.is.length = 0 := (by rw [hb]; rfl); have z_val : F.val.length = 0 := (by rw [hb]; rfl); have z_tx : F.tx.length = 0 := (by rw [hb]; rfl)
    have htr : ∀ v ∈ F.tr, 0 ≤ v ∧ v < 6 := hf.2.1.2
    exact ⟨hk, (by unfold I64; omega), (by unfold I64; omega), (by unfold I64; omega), (by unfold I64; omega), (by unfold I64; omega), (by unfold I64; omega), fun m hm => (by have := htr m hm; unfold I64; omega), (by unfold I64; omega), (by unfold I64; omega), (by unfold I64; omega), (by unfold reachBytes; omega), (by unfold reachBytes; omega), (by unfold reachBytes; omega), (by unfold reachBytes; omega)⟩
  · have z_pn : F.pn = 0 := (by rw [hb]; rfl); have z_fi : F.fi = 0 := (by rw [hb]; rfl); have z_fn : F.fn = 0 := (by rw [hb]; rfl); have z_ti : F.ti = 0 := (by rw [hb]; rfl); have z_tn : F.tn = 0 := (by rw [hb]; rfl); have z_vn : F.vn = 0 := (by rw [hb]; rfl); have z_op : F.op = 0 := (by rw [hb]; rfl); have z_ttl : F.ttl = 0 := (by rw [hb]; rfl); have z_tr : F.tr.length = 0 := (by rw [hb]; rfl); have z_is : F.is.length = 0 := (by rw [hb]; rfl); have z_val : F.val.length = 0 := (by rw [hb]; rfl); have z_tx : F.tx.length = 0 := (by rw [hb]; rfl)
    exact ⟨hk, (by unfold I64; omega), (by unfold I64; omega), (by unfold I64; omega), (by unfold I64; omega), (by unfold I64; omega), (by unfold I64; omega), fun m hm => (by rw [List.length_eq_zero_iff] at z_tr; rw [z_tr] at hm; cases hm), (by unfold I64; omega), (by unfold I64; omega), (by unfold I64; omega), (by unfold reachBytes; omega), (by unfold reachBytes; omega), (by unfold reachBytes; omega), (by unfold reachBytes; omega)⟩
  · have z_pn : F.pn = 0 := (by rw [hb]; rfl); have z_fi : F.fi = 0 := (by rw [hb]; rfl); have z_fn : F.fn = 0 := (by rw [hb]; rfl); have z_ti : F.ti = 0 := (by rw [hb]; rfl); have z_tn : F.tn = 0 := (by rw [hb]; rfl); have z_tr : F.tr.length = 0 := (by rw [hb]; rfl); have z_is : F.is.length = 0 := (by rw [hb]; rfl)
    exact ⟨hk, (by unfold I64; omega), (by unfold I64; omega), (by unfold I64; omega), (by unfold I64; omega), (by unfold I64; omega), (by unfold I64; omega), fun m hm => (by rw [List.length_eq_zero_iff] at z_tr; rw [z_tr] at hm; cases hm), (by unfold I64; omega), (by unfold I64; omega), (by unfold I64; omega), (by unfold reachBytes; omega), (by unfold reachBytes; omega), (by unfold reachBytes; omega), (by unfold reachBytes; omega)⟩
  · have z_n : F.n = 0 := (by rw [hb]; rfl); have z_fi : F.fi = 0 := (by rw [hb]; rfl); have z_fn : F.fn = 0 := (by rw [hb]; rfl); have z_ti : F.ti = 0 := (by rw [hb]; rfl); have z_tn : F.tn = 0 := (by rw [hb]; rfl); have z_op : F.op = 0 := (by rw [hb]; rfl); have z_ttl : F.ttl = 0 := (by rw [hb]; rfl); have z_tr : F.tr.length = 0 := (by rw [hb]; rfl); have z_is : F.is.length = 0 := (by rw [hb]; rfl); have z_tx : F.tx.length = 0 := (by rw [hb]; rfl)
    exact ⟨hk, (by unfold I64; omega), (by unfold I64; omega), (by unfold I64; omega), (by unfold I64; omega), (by unfold I64; omega), (by unfold I64; omega), fun m hm => (by rw [List.length_eq_zero_iff] at z_tr; rw [z_tr] at hm; cases hm), (by unfold I64; omega), (by unfold I64; omega), (by unfold I64; omega), (by unfold reachBytes; omega), (by unfold reachBytes; omega), (by unfold reachBytes; omega), (by unfold reachBytes; omega)⟩
  · have z_n : F.n = 0 := (by rw [hb]; rfl); have z_fi : F.fi = 0 := (by rw [hb]; rfl); have z_fn : F.fn = 0 := (by rw [hb]; rfl); have z_ti : F.ti = 0 := (by rw [hb]; rfl); have z_tn : F.tn = 0 := (by rw [hb]; rfl); have z_op : F.op = 0 := (by rw [hb]; rfl); have z_ttl : F.ttl = 0 := (by rw [hb]; rfl); have z_tr : F.tr.length = 0 := (by rw [hb]; rfl); have z_is : F.is.length = 0 := (by rw [hb]; rfl); have z_val : F.val.length = 0 := (by rw [hb]; rfl); have z_tx : F.tx.length = 0 := (by rw [hb]; rfl)
    exact ⟨hk, (by unfold I64; omega), (by unfold I64; omega), (by unfold I64; omega), (by unfold I64; omega), (by unfold I64; omega), (by unfold I64; omega), fun m hm => (by rw [List.length_eq_zero_iff] at z_tr; rw [z_tr] at hm; cases hm), (by unfold I64; omega), (by unfold I64; omega), (by unfold I64; omega), (by unfold reachBytes; omega), (by unfold reachBytes; omega), (by unfold reachBytes; omega), (by unfold reachBytes; omega)⟩
end Go.Proofs
namespace Go.Proofs
open Go Go.SL
set_option maxRecDepth 100000
def frapc0 :=
  (And.intro (And.intro (And.intro (And.intro @FC.c_length @FC.part) (And.intro @FC.set_all @Int.cast_ofNat_Int)) (And.intro (And.intro @List.replicate_succ.{0} @List.replicate_zero.{0}) (And.intro @SKren_row @after_mk))) (And.intro (And.intro (And.intro @al151 @build151z) (And.intro @cellAt_succ @cellAt_zero)) (And.intro (And.intro @mergeL_done @renL_cons) (And.intro @renL_nil (And.intro @ren_tup @sop_inv)))))
def frapc1 :=
  (And.intro (And.intro (And.intro @beq_self_eq_true.{0} @brun_a) (And.intro @cond_false.{1} @cond_true.{1})) (And.intro (And.intro @tab.a151 @tab.s151) (And.intro @tab.u35 (And.intro @tab.u5 @tab.u9))))
def frapb0 :=
  (And.intro frapc0 frapc1)
def frapb2 :=
  (And.intro (And.intro frapc0 (And.intro frapc1 @bwk_a)) (And.intro (And.intro @eq_self.{1} @forall_const.{1}) (And.intro @implies_true.{0} @implies_true.{1})))
def frapb3 :=
  (And.intro (And.intro (And.intro frapc0 frapc1) (And.intro @bwk_a @eq_self.{1})) (And.intro (And.intro @forall_const.{1} @implies_true.{0}) (And.intro @implies_true.{1} @zF_entF)))
set_option maxHeartbeats 4000000 in
theorem frameOne_calls (b : List UInt8) (hb : b.length ≤ 140737488355328) : Pure Try.prog 33 [bsl b] (.v (.bool true)) := by
  have cD := decode_pure b hb
  unfold dres at cD
  by_cases h : (decode b).2 = 0
  · rcases hd : decode b with ⟨F, e⟩
    rw [hd] at cD h
    simp only at cD h
    subst h
    obtain ⟨hg, hbb⟩ := decode_one b F hd
    have hw := good_wf F hg
    have cE := encode_pure F hw
    unfold eres encode at cE
    rw [if_pos ((encOk_good F hw).2 hg)] at cE
    simp only at cE
    rw [← hbb] at cE
    refine SCall.mk (fn := Try.f33) (by kernel_rfl) rfl (Nat.le_of_ble_eq_true (by kernel_rfl)) ?_
    refine Sem.go (k := 1000) ?_
    simp -dsimp (decide := true) (disch := first | omega | simp (decide := true) only [bdset_a, zF, zE, zH, zK, zD, FC.c_length, frmF_flat, frmc_one]) only [frapb0, ↓brun_b, envOf, Nat.reduceBEq]
    refine SemOps.callq (k := 1000) cal.f117 (cD) rfl rfl rfl rfl (by simp only [bflat_a]) (by simp only [bflat_a, frmF_flat]) (by simp -dsimp (decide := true) (disch := first | omega | simp (decide := true) only [bdset_a, zF, zE, zH, zK, zD, FC.c_length, frmF_flat, frmc_one]) only [frapc1]) ?_
    simp -dsimp (decide := true) (disch := first | omega | simp (decide := true) only [bdset_a, zF, zE, zH, zK, zD, FC.c_length, frmF_flat, frmc_one]) only [frapb0, ↓brun_b, Nat.reduceBEq]
    refine SemOps.callq (k := 1000) cal.f114 (cE) rfl rfl rfl rfl (by simp only [bflat_a, frmF_flat]) (by simp only [bflat_a]) (by simp -dsimp (decide := true) (disch := first | omega | simp (decide := true) only [bdset_a, zF, zE, zH, zK, zD, FC.c_length, frmF_flat, frmc_one]) only [frapc1]) ?_
    simp -dsimp (decide := true) (disch := first | omega | simp (decide := true) only [bdset_a, zF, zE, zH, zK, zD, FC.c_length, frmF_flat, frmc_one]) only [frapb0, ↓brun_b, Nat.reduceBEq]
    refine SemOps.callq (k := 1000) cal.f116 (fixed4_calls) rfl rfl rfl rfl (by simp only [bflat_a]) (by simp only [bflat_a]) (by simp -dsimp (decide := true) (disch := first | omega | simp (decide := true) only [bdset_a, zF, zE, zH, zK, zD, FC.c_length, frmF_flat, frmc_one]) only [frapc1]) ?_
    simp -dsimp (decide := true) (disch := first | omega | simp (decide := true) only [bdset_a, zF, zE, zH, zK, zD, FC.c_length, frmF_flat, frmc_one]) only [frapb0, ↓brun_b, Nat.reduceBEq]
    refine SQ.answer (rs := [.tmp 2]) rfl rfl ?_
    simp -dsimp (decide := true) (disch := first | omega | simp (decide := true) only [bdset_a, zF, zE, zH, zK, zD, FC.c_length, frmF_flat, frmc_one]) only [frapb2, ↓brun_b, rho]
  · have hz := decode_bad b h
    rcases hd : decode b with ⟨F, e⟩
    rw [hd] at cD h hz
    simp only at cD h hz
    subst hz
    have he : decide (e = 0) = false := decide_eq_false h
    refine SCall.mk (fn := Try.f33) (by kernel_rfl) rfl (Nat.le_of_ble_eq_true (by kernel_rfl)) ?_
    refine Sem.go (k := 1000) ?_
    simp -dsimp (decide := true) (disch := first | omega | simp (decide := true) only [bdset_a, zF, zE, zH, zK, zD, FC.c_length, frmF_flat, frmc_one]) only [frapb0, ↓brun_b, envOf, Nat.reduceBEq]
    refine SemOps.callq (k := 1000) cal.f117 (cD) rfl rfl rfl rfl (by simp only [bflat_a]) (by simp only [bflat_a, frmF_flat]) (by simp -dsimp (decide := true) (disch := first | omega | simp (decide := true) only [bdset_a, zF, zE, zH, zK, zD, FC.c_length, frmF_flat, frmc_one]) only [frapc1]) ?_
    simp -dsimp (decide := true) (disch := first | omega | simp (decide := true) only [bdset_a, zF, zE, zH, zK, zD, FC.c_length, frmF_flat, frmc_one]) only [frapb0, ↓brun_b, Nat.reduceBEq, he]
    refine SemOps.callq (k := 1000) cal.f116 (fixed4_calls) rfl rfl rfl rfl (by simp only [bflat_a]) (by simp only [bflat_a]) (by simp -dsimp (decide := true) (disch := first | omega | simp (decide := true) only [bdset_a, zF, zE, zH, zK, zD, FC.c_length, frmF_flat, frmc_one]) only [frapc1]) ?_
    simp -dsimp (decide := true) (disch := first | omega | simp (decide := true) only [bdset_a, zF, zE, zH, zK, zD, FC.c_length, frmF_flat, frmc_one]) only [frapb0, ↓brun_b, Nat.reduceBEq]
    refine SemOps.callw [] cal.f104 (sameZ_calls) rfl rfl rfl (by simp -dsimp (decide := true) (disch := first | omega | simp (decide := true) only [bdset_a, zF, zE, zH, zK, zD, FC.c_length, frmF_flat, frmc_one]) only [frapb3, ↓brun_b, Nat.reduceBEq, rho]) rfl (by simp -dsimp (decide := true) (disch := first | omega | simp (decide := true) only [bdset_a, zF, zE, zH, zK, zD, FC.c_length, frmF_flat, frmc_one]) only [frapb3, rho]) (by simp -dsimp (decide := true) (disch := first | omega | simp (decide := true) only [bdset_a, zF, zE, zH, zK, zD, FC.c_length, frmF_flat, frmc_one]) only [frapc1]) ?_
    refine SemOps.go (k := 1000) ?_
    simp -dsimp (decide := true) (disch := first | omega | simp (decide := true) only [bdset_a, zF, zE, zH, zK, zD, FC.c_length, frmF_flat, frmc_one]) only [frapb0, ↓brun_b, Nat.reduceBEq, rho]
    refine SQ.answer (rs := [.tmp 2]) rfl rfl ?_
    simp -dsimp (decide := true) (disch := first | omega | simp (decide := true) only [bdset_a, zF, zE, zH, zK, zD, FC.c_length, frmF_flat, frmc_one]) only [frapb2, ↓brun_b, rho]
theorem frameOne_law (l0 : List SV) (h0 : ClsC Try.prog 20 35 l0) : Pure Try.prog 33 [cellAt l0 0] (.v (.bool true)) := by
  obtain ⟨b, rfl, hb⟩ := cls_bytes h0
  exact frameOne_calls b (by unfold reachBytes at hb; omega)
end Go.Proofs
