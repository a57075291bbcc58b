/- Contracts of functions that the laws reach, on abstract values, and what they need: no conditions but those that each theorem states. -/
import Derived.Test.YtheodenjjaoncaaKinP
import Derived.Test.YtheodenjjaoncaaRigP
import Derived.Test.YtheodenjjaoncaaLayP
import Derived.Test.YtheodenjjaoncaaFcP
set_option linter.unusedVariables false
set_option linter.unusedSimpArgs false
set_option linter.defProp false
namespace Go.Proofs
open Go Go.SL
set_option maxRecDepth 100000
theorem b222 : sBuild Try.prog 222 [] = some ⟨.agg [.v (.slice none 0 0)], {}, True⟩ := by
  rw [sBuild_eq, tab.z222, tab.l222]; rfl
theorem nB_nil : nB [] = [] := rfl
theorem fits_5 (F : Frm) (hw : F.wf) (h : rightB 5 F = true) : fits 5 F := by
  have w_pn := hw.pn; have w_n := hw.n; have w_fi := hw.fi; have w_fn := hw.fn; have w_ti := hw.ti; have w_tn := hw.tn; have w_vn := hw.vn; have w_op := hw.op; have w_ttl := hw.ttl; unfold I64 at *
  simp only [rightB, allNN, List.all_cons, List.all_nil, Bool.and_true, decide_eq_true_eq] at h
  simp only [fits]
  (repeat' apply And.intro) <;> first | omega | exact h.2.2 | exact h.1.1.2.2 | exact h.2.1.2.2 | exact h.1.2.2
end Go.Proofs
namespace Go.Proofs
open Go Go.SL
set_option maxRecDepth 100000
theorem frmc_one (F : Frm) : F.fc.c.all SV.one = true := frm_one F
theorem frmF_flat (F : Frm) : SV.flatL F.fc.c = true := by unfold Frm.fc; exact frm_flat ..
theorem ifc_flat (T : TypeId) (v : SV) (h : v.flat = true) : (SV.ifc T v).flat = true := by unfold SV.flat; exact h
def rest5 (fn : Func) : Option Go.Code :=
  match fn.body with
  | some (Go.Code.seq _ (Go.Code.seq _ (Go.Code.seq _ (Go.Code.seq _ (Go.Code.seq _ c))))) => some c
  | _ => none
def encqc0 :=
  (And.intro (And.intro (And.intro @DR.one (And.intro @H1.one @PT.one)) (And.intro (And.intro @SU.one @bdset_a) (And.intro @brow_flat @frm_flat))) (And.intro (And.intro @idrs_flat (And.intro @lrows_flat @zD.eq_1)) (And.intro (And.intro @zE.eq_1 @zF.eq_1) (And.intro @zH.eq_1 @zK.eq_1))))
def encqb0 :=
  (And.intro (And.intro (And.intro encqc0 @DR.c_length) (And.intro @FC.c_length @H1.c_length)) (And.intro (And.intro @PT.c_length @SU.c_length) (And.intro @frmF_flat @frmc_one)))
def encqc1 :=
  (And.intro (And.intro (And.intro (And.intro @FC.part @H1.part_a) (And.intro @H1.set_all (And.intro @Int.cast_ofNat_Int @List.replicate_succ.{0}))) (And.intro (And.intro @List.replicate_zero.{0} @SKren_row) (And.intro @after_mk (And.intro @b222 @bs69_1)))) (And.intro (And.intro (And.intro @cellAt_succ @cellAt_zero) (And.intro @mergeL_done (And.intro @mergeL_own @renL_cons))) (And.intro (And.intro @renL_flat (And.intro @renL_nil @ren_tup)) (And.intro @sop_assert (And.intro @splice_0 @splice_c)))))
def encqc2 :=
  (And.intro (And.intro (And.intro (And.intro @beq_self_eq_true.{0} (And.intro @brun_a @cond_false.{1})) (And.intro @cond_true.{1} (And.intro @tab.a144 @tab.a145))) (And.intro (And.intro @tab.a151 (And.intro @tab.a2 @tab.a23)) (And.intro @tab.a35 (And.intro @tab.a4 @tab.f135x0)))) (And.intro (And.intro (And.intro @tab.f135x1 (And.intro @tab.f222x0 @tab.f230x0)) (And.intro @tab.s144 (And.intro @tab.s145 @tab.s151))) (And.intro (And.intro @tab.s2 (And.intro @tab.s23 @tab.s230)) (And.intro (And.intro @tab.s232 @tab.s35) (And.intro @tab.s4 @tab.u35)))))
def encqb1 :=
  (And.intro (And.intro encqc1 encqc2) (And.intro @FC.c_length (And.intro @H1.c_length @sop_inv)))
def encqb2 :=
  (And.intro (And.intro (And.intro encqc1 encqc2) (And.intro @FC.c_length (And.intro @H1.c_length @bwk_a))) (And.intro (And.intro @eq_self.{1} @forall_const.{1}) (And.intro @implies_true.{0} (And.intro @implies_true.{1} @sop_inv))))
def encqb4 :=
  (And.intro (And.intro (And.intro @List.length_cons.{0} @List.length_nil.{0}) (And.intro @Nat.zero_add @roL_in)) (And.intro (And.intro @roL_nil @roL_none) (And.intro @roL_row @ro_mk)))
set_option maxHeartbeats 4000000 in
theorem enc_head (F : Frm) (T : TypeId) (v : SV) (hv : v.flat = true) (ho : Pure Try.prog 119 [.agg F.fc.c] (.tup [.ifc T v, .v (.bool true)])) (hr : Pure Try.prog 121 [.ifc T v] (.v (.bool true))) (H : Frm) (hp : Pure Try.prog 123 [.ifc T v] (.agg H.fc.c)) (hs : Pure Try.prog 143 [.agg H.fc.c, .agg F.fc.c] (.v (.bool true))) (k : Int) (hk : 0 ≤ k ∧ k < 100) (fn : FuncId)
    (hm : Meth Try.prog T "Kind" fn) (hc : Cal Try.prog fn) (hkd : Pure Try.prog fn [v] (.v (.int .i64 k))) (R : SE → List (Option SK) → Prop)
    (tail : ∀ c, rest5 Try.f114 = some c → ∀ A : List UInt8, N k = A → Go.SL.Sem Try.prog (SQ Try.prog Try.f114 R) [.code c] ⟨300, 0, [(4, .ifc T v), (6, .ptr 0 0 0)], [some (.row ⟨1, 1, true, 222, fun _ => [.slc 1 0 A.length]⟩), some (.row ⟨1, A.length, true, 5, brow A⟩)]⟩) : SCall Try.prog 114 [.agg F.fc.c] [] R := by
  have hvf := ifc_flat T v hv
  have hvr : ∀ ρ, (SV.ifc T v).ren ρ = .ifc T v := fun ρ => SV.flat_ren ρ _ hvf
  have hve : ∀ (fz : Nat → Option SB) (ρ : Nat → Nat), Ent fz ρ (.ifc T v) (.ifc T v) = True := fun fz ρ => Ent_self _ hvf
  have hfe : ∀ (fz : Nat → Option SB) (ρ : Nat → Nat) (F : Frm), EntL fz ρ F.fc.c F.fc.c = True := fun fz ρ F => eq_true (EntL.self (frmF_flat F))
  refine SCall.mk (fn := Try.f114) (by kernel_rfl) rfl (Nat.le_of_ble_eq_true (by kernel_rfl)) ?_
  refine Sem.go (k := 1000) ?_
  simp -dsimp (decide := true) (disch := first | omega | simp (decide := true) only [encqb0]) only [encqb1, ↓brun_b, envOf, Nat.reduceBEq]
  refine SemOps.callw [] cal.f119 (ho) rfl rfl rfl (by simp -dsimp (decide := true) (disch := first | omega | simp (decide := true) only [encqb0]) only [encqb2, ↓brun_b, rho]) rfl (by simp -dsimp (decide := true) (disch := first | omega | simp (decide := true) only [encqb0]) only [encqb2, rho]) (by simp -dsimp (decide := true) (disch := first | omega | simp (decide := true) only [encqb0]) only [encqc2]) ?_
  refine SemOps.go (k := 1000) ?_
  simp -dsimp (decide := true) (disch := first | omega | simp (decide := true) only [encqb0]) only [encqb1, ↓brun_b, Nat.reduceBEq, rho, hvr]
  refine Sem.draw' (by kernel_rfl) (.one 0 (.one 1 (.one 2 (.one 3 (.alt 4 (.one 5 (.one 6 (.one 7 (.one 8 (.one 10 (.alt 9 (.alt 11 (.one 12 (.one 13 .done)) .non) .non)))))) .non))))) [] (by kernel_rfl) (fun G ff hG hf => ?_)
  simp (decide := true) only [encqb4] at hG ⊢
  simp -dsimp (decide := true) (disch := first | omega | simp (decide := true) only [encqb0]) only [encqb1, ↓brun_b, Nat.reduceBEq]
  refine OpSem.callw [] cal.f121 (hr) rfl rfl (by simp -dsimp (decide := true) (disch := first | omega | simp (decide := true) only [encqb0]) only [encqb2, ↓brun_b, rho]) rfl (by simp -dsimp (decide := true) (disch := first | omega | simp (decide := true) only [encqb0]) only [encqb2, rho]) (by simp -dsimp (decide := true) (disch := first | omega | simp (decide := true) only [encqb0]) only [encqc2]) ?_
  simp -dsimp (decide := true) (disch := first | omega | simp (decide := true) only [encqb0]) only [encqb1, ↓brun_b, Nat.reduceBEq, rho, hG]
  refine OpSem.callw [] cal.f123 (hp) rfl rfl (by simp -dsimp (decide := true) (disch := first | omega | simp (decide := true) only [encqb0]) only [encqb2, ↓brun_b, Nat.reduceBEq, rho]) rfl (by simp -dsimp (decide := true) (disch := first | omega | simp (decide := true) only [encqb0]) only [encqb2, rho]) (by simp -dsimp (decide := true) (disch := first | omega | simp (decide := true) only [encqb0]) only [encqc2]) ?_
  simp -dsimp (decide := true) (disch := first | omega | simp (decide := true) only [encqb0]) only [encqb1, ↓brun_b, Nat.reduceBEq, rho]
  refine OpSem.callw [] cal.f143 (hs) rfl rfl (by simp -dsimp (decide := true) (disch := first | omega | simp (decide := true) only [encqb0]) only [encqb2, ↓brun_b, Nat.reduceBEq, rho]) rfl (by simp -dsimp (decide := true) (disch := first | omega | simp (decide := true) only [encqb0]) only [encqb2, rho]) (by simp -dsimp (decide := true) (disch := first | omega | simp (decide := true) only [encqb0]) only [encqc2]) ?_
  simp -dsimp (decide := true) (disch := first | omega | simp (decide := true) only [encqb0]) only [encqb1, ↓brun_b, Nat.reduceBEq, rho]
  refine hf _ (Sem.go (k := 1000) ?_)
  simp (decide := true) only [back_mk, backL_row, backL_nil, Nat.zero_add]
  simp -dsimp (decide := true) (disch := first | omega | simp (decide := true) only [encqb0]) only [encqb1, ↓brun_b, Nat.reduceAdd, Nat.reduceBEq]
  refine SemOps.callI rfl rfl rfl hm hc hkd hv rfl (by simp -dsimp (decide := true) (disch := first | omega | simp (decide := true) only [encqb0]) only [encqb1]) ?_
  refine SemOps.go (k := 1000) ?_
  simp -dsimp (decide := true) (disch := first | omega | simp (decide := true) only [encqb0]) only [encqb1, ↓brun_b, Nat.reduceAdd]
  refine Lent.ops (Lent.ghostB 1 0 1 5 rfl rfl) ?_
  refine SemOps.frz (d := 43) (lrows [k]) rfl rfl rfl (by omega) (fun i r h => ent_icells h) ?_
  have hL0 := N_le k (by omega)
  have c0 := numLay1 k (by omega) [] (by simp only [List.length_nil]; omega)
  unfold ladR bytR at c0
  rw [List.nil_append] at c0
  generalize hA : N k = A at c0 hL0
  refine SemOps.callw [1, 3] cal.f144 (c0) rfl rfl rfl (by simp -dsimp (decide := true) (disch := first | omega | simp (decide := true) only [encqb0]) only [encqb2, ↓brun_b, Nat.reduceAdd, Nat.reduceBEq]) rfl (by simp -dsimp (decide := true) (disch := first | omega | simp (decide := true) only [encqb0]) only [encqb2, Nat.reduceAdd]) (by simp -dsimp (decide := true) (disch := first | omega | simp (decide := true) only [encqb0]) only [encqc2, Nat.reduceAdd]) ?_
  refine SemOps.go (k := 0) ?_
  simp -dsimp (decide := true) (disch := first | omega | simp (decide := true) only [encqb0]) only [encqb1, Nat.reduceAdd, rho]
  refine Sem.weaken [1, 4] (s' := ⟨300, 0, [(4, .ifc T v), (6, .ptr 0 0 0)], [some (.row ⟨1, 1, true, 222, fun _ => [.slc 1 0 A.length]⟩), some (.row ⟨1, A.length, true, 5, brow A⟩)]⟩) ?_ ?_
  · (refine Wk.ofC ?_; simp -dsimp (decide := true) (disch := first | omega | simp (decide := true) only [encqb0]) only [encqb2, ↓brun_b, Nat.reduceAdd, Nat.reduceBEq])
  exact tail _ rfl A hA
end Go.Proofs
namespace Go.Proofs
open Go Go.SL
set_option maxRecDepth 100000
def encqb5 :=
  (And.intro (And.intro (And.intro encqc0 @DR.c_length) (And.intro @FC.c_length @FC.one_eq)) (And.intro (And.intro @H1.c_length @PT.c_length) (And.intro @SU.c_length @p144_flat)))
def encqc3 :=
  (And.intro (And.intro (And.intro @DR.part_P (And.intro @DR.set_all @PT.at_toA)) (And.intro (And.intro @PT.part_P @PT.set_all) (And.intro @SU.at_tr @SU.part_P))) (And.intro (And.intro @SU.part_a (And.intro @SU.part_b @SU.set_all)) (And.intro (And.intro @al230 @al232) (And.intro @bs79 @hit230))))
def encqb6 :=
  (And.intro (And.intro (And.intro encqc3 encqc1) (And.intro encqc2 @DR.c_length)) (And.intro (And.intro @FC.c_length @H1.c_length) (And.intro @PT.c_length @SU.c_length)))
def encqb7 :=
  (And.intro (And.intro (And.intro encqc3 (And.intro encqc1 encqc2)) (And.intro @DR.c_length (And.intro @FC.c_length @H1.c_length))) (And.intro (And.intro @PT.c_length (And.intro @SU.c_length @bwk_a)) (And.intro (And.intro @eq_self.{1} @forall_const.{1}) (And.intro @implies_true.{0} @implies_true.{1}))))
set_option maxHeartbeats 8000000 in
theorem enc_5 (F : Frm) (hw : F.wf) (hk : F.kind = 5) (hr : rightB 5 F = true) (hs : frmEq (bare 5 F) F = true) : SCall Try.prog 114 [.agg F.fc.c] [] fun r L => r = .ret (.tup [.slc 0 0 (bytesB F).length, .v (.int .i64 0)]) ∧ L = [bytR (bytesB F)] := by
  have hft := fits_5 F hw hr
  simp only [fits] at hft
  have b_ltx : F.tx.length ≤ 140737488355328 := by have := hw.ltx; unfold reachBytes at this; omega
  have b_lval : F.val.length ≤ 140737488355328 := by have := hw.lval; unfold reachBytes at this; omega
  have b_ltr : F.tr.length * 8 ≤ 140737488355328 := by have := hw.ltr; unfold reachBytes at this; omega
  have b_lis : F.is.length * 16 ≤ 140737488355328 := by have := hw.lis; unfold reachBytes at this; omega
  have h1 : F.tr.length < 4611686018427387904 := by have := hw.ltr; unfold reachBytes at this; omega
  have h2 : F.is.length < 4611686018427387904 := by have := hw.lis; unfold reachBytes at this; omega
  have hright := right_k5 F
  rw [hr] at hright
  have hsame := same143_calls (bare 5 F) F (by show 0 < 4611686018427387904; decide) (by show 0 < 4611686018427387904; decide) h1 h2
  rw [hs] at hsame
  refine enc_head F 230 _ (bodyF_5 F) (of_k5 F hk) hright _ (plainB_5 F) hsame 5 (by decide) 194 meth230 cal.f194 (kind_k5 F) _ fun c hc A hA => ?_
  cases hc
  have hL0 := N_le 5 (by decide)
  rw [hA] at hL0
  refine Sem.go (k := 1000) ?_
  simp -dsimp (decide := true) (disch := first | omega | simp (decide := true) only [encqb5]) only [encqb6, ↓brun_b, Nat.reduceAdd, Nat.reduceBEq, fun v => miss214 230 v (by decide), fun v => miss210 230 v (by decide), fun v => miss218 230 v (by decide), fun v => miss226 230 v (by decide)]
  have hk1 : (iB F.who ++ N F.pn).length ≤ 25 := by have := N_le F.pn (by omega); simp only [List.length_append, iB_length]; omega
  have c1 := (path_lays F.who F.pn (by omega)) A (by omega)
  unfold ladR bytR at c1
  have hL1 : (A ++ (iB F.who ++ N F.pn)).length = A.length + ((iB F.who ++ N F.pn)).length := List.length_append
  generalize hA1 : A ++ (iB F.who ++ N F.pn) = A1 at c1 hL1
  refine SemOps.callw [0, 1] cal.f146 (c1) rfl rfl rfl (by simp -dsimp (decide := true) (disch := first | omega | simp (decide := true) only [encqb5]) only [encqb7, ↓brun_b, Nat.reduceAdd, Nat.reduceBEq]) rfl (by simp -dsimp (decide := true) (disch := first | omega | simp (decide := true) only [encqb5]) only [encqb7, Nat.reduceAdd]) (by simp -dsimp (decide := true) (disch := first | omega | simp (decide := true) only [encqb5]) only [encqc2]) ?_
  refine SemOps.go (k := 1000) ?_
  simp -dsimp (decide := true) (disch := first | omega | simp (decide := true) only [encqb5]) only [encqb6, ↓brun_b, Nat.reduceAdd, Nat.reduceBEq, rho]
  have hE : bytesB F = A1 := by
    have hkk : F.k = 5 := by unfold Frm.k; rw [hk]; rfl
    have h0 : N 5 = form 5 := rfl
    unfold bytesB
    rw [hkk, ← hA1, ← hA, h0]
    simp only [bodyB]
  rw [hE]
  unfold bytR
  refine SQ.runL (rs := [.tmp 2, .tmp 3]) [3] _ _ rfl (And.intro rfl rfl) (by decide) rfl rfl ?_ ?_
  · simp -dsimp (decide := true) (disch := first | omega | simp (decide := true) only [encqb5]) only [encqb7, Nat.reduceAdd]
  · simp -dsimp (decide := true) (disch := first | omega | simp (decide := true) only [encqb5]) only [encqb7, ↓brun_b, Nat.reduceAdd, Nat.reduceBEq]
end Go.Proofs
namespace Go.Proofs
open Go Go.SL
set_option maxRecDepth 100000
end Go.Proofs
namespace Go.Proofs
open Go Go.SL
set_option maxRecDepth 100000
end Go.Proofs
namespace Go.Proofs
open Go Go.SL
set_option maxRecDepth 100000
end Go.Proofs
namespace Go.Proofs
open Go Go.SL
set_option maxRecDepth 100000
end Go.Proofs
namespace Go.Proofs
open Go Go.SL
set_option maxRecDepth 100000
end Go.Proofs
namespace Go.Proofs
open Go Go.SL
set_option maxRecDepth 100000
end Go.Proofs
