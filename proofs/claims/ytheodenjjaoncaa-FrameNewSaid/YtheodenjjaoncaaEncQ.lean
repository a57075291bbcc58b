/- Contracts of functions that the laws reach, on abstract values, and what they need: no conditions but those that each theorem states. -/
import Derived.Test.YtheodenjjaoncaaKinP
import Derived.Test.YtheodenjjaoncaaRigP
import Derived.Test.YtheodenjjaoncaaLayP
import Derived.Test.YtheodenjjaoncaaFcP
set_option linter.unusedVariables false
set_option linter.unusedSimpArgs false
set_option linter.defProp false
namespace Go.Proofs
open Go Go.SL
set_option maxRecDepth 100000
theorem b222 : sBuild Try.prog 222 [] = some ⟨.agg [.v (.slice none 0 0)], {}, True⟩ := by
  rw [sBuild_eq, tab.z222, tab.l222]; rfl
theorem nB_cons (a : Int) (l : List Int) : nB (a :: l) = N a ++ nB l := by simp [nB]
theorem nB_nil : nB [] = [] := rfl
theorem N_nat (n : Nat) : N (n : Int) = form n := by simp [N]
theorem form_le (n : Nat) (h : n < 9223372036854775808) : (form n).length ≤ 9 := by
  have := N_le (n : Int) (by omega)
  rwa [N_nat] at this
theorem nB_len (l : List Int) (h : ∀ v ∈ l, 0 ≤ v ∧ v < 9223372036854775808) : (nB l).length ≤ 9 * l.length := by
  induction l with
  | nil => simp [nB]
  | cons x l ih =>
    have h1 := N_le x (h x (by simp))
    have h2 := ih fun v hv => h v (by simp [hv])
    rw [nB_cons, List.length_append, List.length_cons]
    omega
theorem allTr_iff (l : List Int) : allTr l = true ↔ ∀ v ∈ l, 0 ≤ v ∧ v < 6 := by
  simp [allTr, List.all_eq_true]
theorem fits_1 (F : Frm) (hw : F.wf) (h : rightB 1 F = true) : fits 1 F := by
  have w_pn := hw.pn; have w_n := hw.n; have w_fi := hw.fi; have w_fn := hw.fn; have w_ti := hw.ti; have w_tn := hw.tn; have w_vn := hw.vn; have w_op := hw.op; have w_ttl := hw.ttl; unfold I64 at *
  simp only [rightB, allNN, List.all_cons, List.all_nil, Bool.and_true, Bool.and_eq_true, decide_eq_true_eq] at h
  simp only [fits]
  (repeat' apply And.intro) <;> first | omega | exact h.2.2 | exact h.1.1.2.2 | exact h.2.1.2.2 | exact h.1.2.2
theorem right_of_1 (F : Frm) (h : fits 1 F) : rightB 1 F = true := by
  simp only [fits] at h
  simp only [rightB, allNN, List.all_cons, List.all_nil, Bool.and_true, Bool.and_eq_true, decide_eq_true_eq]
  (repeat' apply And.intro) <;> first | omega | exact h.2.2 | exact h.2.1.2
theorem fits_2 (F : Frm) (hw : F.wf) (h : rightB 2 F = true) : fits 2 F := by
  have w_pn := hw.pn; have w_n := hw.n; have w_fi := hw.fi; have w_fn := hw.fn; have w_ti := hw.ti; have w_tn := hw.tn; have w_vn := hw.vn; have w_op := hw.op; have w_ttl := hw.ttl; unfold I64 at *
  simp only [rightB, allNN, List.all_cons, List.all_nil, Bool.and_true, Bool.and_eq_true, decide_eq_true_eq] at h
  simp only [fits]
  (repeat' apply And.intro) <;> first | omega | exact h.2.2 | exact h.1.1.2.2 | exact h.2.1.2.2 | exact h.1.2.2
theorem right_of_2 (F : Frm) (h : fits 2 F) : rightB 2 F = true := by
  simp only [fits] at h
  simp only [rightB, allNN, List.all_cons, List.all_nil, Bool.and_true, Bool.and_eq_true, decide_eq_true_eq]
  (repeat' apply And.intro) <;> first | omega | exact h.2.2 | exact h.2.1.2
theorem fits_3 (F : Frm) (hw : F.wf) (h : rightB 3 F = true) : fits 3 F := by
  have w_pn := hw.pn; have w_n := hw.n; have w_fi := hw.fi; have w_fn := hw.fn; have w_ti := hw.ti; have w_tn := hw.tn; have w_vn := hw.vn; have w_op := hw.op; have w_ttl := hw.ttl; unfold I64 at *
  simp only [rightB, allNN, List.all_cons, List.all_nil, Bool.and_true, Bool.and_eq_true, decide_eq_true_eq] at h
  simp only [fits]
  (repeat' apply And.intro) <;> first | omega | exact h.2.2 | exact h.1.1.2.2 | exact h.2.1.2.2 | exact h.1.2.2
theorem right_of_3 (F : Frm) (h : fits 3 F) : rightB 3 F = true := by
  simp only [fits] at h
  simp only [rightB, allNN, List.all_cons, List.all_nil, Bool.and_true, Bool.and_eq_true, decide_eq_true_eq]
  (repeat' apply And.intro) <;> first | omega | exact h.2.2 | exact h.2.1.2
theorem fits_4 (F : Frm) (hw : F.wf) (h : rightB 4 F = true) : fits 4 F := by
  have w_pn := hw.pn; have w_n := hw.n; have w_fi := hw.fi; have w_fn := hw.fn; have w_ti := hw.ti; have w_tn := hw.tn; have w_vn := hw.vn; have w_op := hw.op; have w_ttl := hw.ttl; unfold I64 at *
  simp only [rightB, allNN, trB, allTr_iff, List.all_cons, List.all_nil, Bool.and_true, Bool.and_eq_true, decide_eq_true_eq] at h
  simp only [fits]
  (repeat' apply And.intro) <;> first | omega | exact h.2.2 | exact h.1.1.2.2 | exact h.2.1.2.2 | exact h.1.2.2
theorem right_of_4 (F : Frm) (h : fits 4 F) : rightB 4 F = true := by
  simp only [fits] at h
  simp only [rightB, allNN, trB, allTr_iff, List.all_cons, List.all_nil, Bool.and_true, Bool.and_eq_true, decide_eq_true_eq]
  (repeat' apply And.intro) <;> first | omega | exact h.2.2 | exact h.2.1.2
theorem fits_5 (F : Frm) (hw : F.wf) (h : rightB 5 F = true) : fits 5 F := by
  have w_pn := hw.pn; have w_n := hw.n; have w_fi := hw.fi; have w_fn := hw.fn; have w_ti := hw.ti; have w_tn := hw.tn; have w_vn := hw.vn; have w_op := hw.op; have w_ttl := hw.ttl; unfold I64 at *
  simp only [rightB, allNN, List.all_cons, List.all_nil, Bool.and_true, decide_eq_true_eq] at h
  simp only [fits]
  (repeat' apply And.intro) <;> first | omega | exact h.2.2 | exact h.1.1.2.2 | exact h.2.1.2.2 | exact h.1.2.2
theorem right_of_5 (F : Frm) (h : fits 5 F) : rightB 5 F = true := by
  simp only [fits] at h
  simp only [rightB, allNN, List.all_cons, List.all_nil, Bool.and_true, decide_eq_true_eq]
  (repeat' apply And.intro) <;> first | omega | exact h.2.2 | exact h.2.1.2
theorem fits_6 (F : Frm) (hw : F.wf) (h : rightB 6 F = true) : fits 6 F := by
  have w_pn := hw.pn; have w_n := hw.n; have w_fi := hw.fi; have w_fn := hw.fn; have w_ti := hw.ti; have w_tn := hw.tn; have w_vn := hw.vn; have w_op := hw.op; have w_ttl := hw.ttl; unfold I64 at *
  simp only [rightB, allNN, List.all_cons, List.all_nil, Bool.and_true, decide_eq_true_eq] at h
  simp only [fits]
  (repeat' apply And.intro) <;> first | omega | exact h.2.2 | exact h.1.1.2.2 | exact h.2.1.2.2 | exact h.1.2.2
theorem right_of_6 (F : Frm) (h : fits 6 F) : rightB 6 F = true := by
  simp only [fits] at h
  simp only [rightB, allNN, List.all_cons, List.all_nil, Bool.and_true, decide_eq_true_eq]
  (repeat' apply And.intro) <;> first | omega | exact h.2.2 | exact h.2.1.2
theorem fits_7 (F : Frm) (hw : F.wf) (h : rightB 7 F = true) : fits 7 F := by
  have w_pn := hw.pn; have w_n := hw.n; have w_fi := hw.fi; have w_fn := hw.fn; have w_ti := hw.ti; have w_tn := hw.tn; have w_vn := hw.vn; have w_op := hw.op; have w_ttl := hw.ttl; unfold I64 at *
  simp only [rightB, allNN, List.all_cons, List.all_nil, Bool.and_true, Bool.and_eq_true, decide_eq_true_eq] at h
  simp only [fits]
  (repeat' apply And.intro) <;> first | omega | exact h.2.2 | exact h.1.1.2.2 | exact h.2.1.2.2 | exact h.1.2.2
theorem right_of_7 (F : Frm) (h : fits 7 F) : rightB 7 F = true := by
  simp only [fits] at h
  simp only [rightB, allNN, List.all_cons, List.all_nil, Bool.and_true, Bool.and_eq_true, decide_eq_true_eq]
  (repeat' apply And.intro) <;> first | omega | exact h.2.2 | exact h.2.1.2
theorem fits_8 (F : Frm) (hw : F.wf) (h : rightB 8 F = true) : fits 8 F := by
  have w_pn := hw.pn; have w_n := hw.n; have w_fi := hw.fi; have w_fn := hw.fn; have w_ti := hw.ti; have w_tn := hw.tn; have w_vn := hw.vn; have w_op := hw.op; have w_ttl := hw.ttl; unfold I64 at *
  simp only [rightB, allNN, trB, allTr_iff, List.all_cons, List.all_nil, Bool.and_true, Bool.and_eq_true, decide_eq_true_eq] at h
  simp only [fits]
  (repeat' apply And.intro) <;> first | omega | exact h.2.2 | exact h.1.1.2.2 | exact h.2.1.2.2 | exact h.1.2.2
theorem right_of_8 (F : Frm) (h : fits 8 F) : rightB 8 F = true := by
  simp only [fits] at h
  simp only [rightB, allNN, trB, allTr_iff, List.all_cons, List.all_nil, Bool.and_true, Bool.and_eq_true, decide_eq_true_eq]
  (repeat' apply And.intro) <;> first | omega | exact h.2.2 | exact h.2.1.2
theorem fits_9 (F : Frm) (hw : F.wf) (h : rightB 9 F = true) : fits 9 F := by
  have w_pn := hw.pn; have w_n := hw.n; have w_fi := hw.fi; have w_fn := hw.fn; have w_ti := hw.ti; have w_tn := hw.tn; have w_vn := hw.vn; have w_op := hw.op; have w_ttl := hw.ttl; unfold I64 at *
  simp only [rightB, allNN, List.all_cons, List.all_nil, Bool.and_true, decide_eq_true_eq] at h
  simp only [fits]
  (repeat' apply And.intro) <;> first | omega | exact h.2.2 | exact h.1.1.2.2 | exact h.2.1.2.2 | exact h.1.2.2
theorem right_of_9 (F : Frm) (h : fits 9 F) : rightB 9 F = true := by
  simp only [fits] at h
  simp only [rightB, allNN, List.all_cons, List.all_nil, Bool.and_true, decide_eq_true_eq]
  (repeat' apply And.intro) <;> first | omega | exact h.2.2 | exact h.2.1.2
theorem fits_10 (F : Frm) (hw : F.wf) (h : rightB 10 F = true) : fits 10 F := by
  have w_pn := hw.pn; have w_n := hw.n; have w_fi := hw.fi; have w_fn := hw.fn; have w_ti := hw.ti; have w_tn := hw.tn; have w_vn := hw.vn; have w_op := hw.op; have w_ttl := hw.ttl; unfold I64 at *
  simp only [rightB, allNN, List.all_cons, List.all_nil, Bool.and_true, Bool.and_eq_true, decide_eq_true_eq] at h
  simp only [fits]
  (repeat' apply And.intro) <;> first | omega | exact h.2.2 | exact h.1.1.2.2 | exact h.2.1.2.2 | exact h.1.2.2
theorem right_of_10 (F : Frm) (h : fits 10 F) : rightB 10 F = true := by
  simp only [fits] at h
  simp only [rightB, allNN, List.all_cons, List.all_nil, Bool.and_true, Bool.and_eq_true, decide_eq_true_eq]
  (repeat' apply And.intro) <;> first | omega | exact h.2.2 | exact h.2.1.2
theorem fits_11 (F : Frm) (hw : F.wf) (h : rightB 11 F = true) : fits 11 F := by
  have w_pn := hw.pn; have w_n := hw.n; have w_fi := hw.fi; have w_fn := hw.fn; have w_ti := hw.ti; have w_tn := hw.tn; have w_vn := hw.vn; have w_op := hw.op; have w_ttl := hw.ttl; unfold I64 at *
  simp only [rightB, allNN, List.all_cons, List.all_nil, Bool.and_true, Bool.and_eq_true, decide_eq_true_eq] at h
  simp only [fits]
  (repeat' apply And.intro) <;> first | omega | exact h.2.2 | exact h.1.1.2.2 | exact h.2.1.2.2 | exact h.1.2.2
theorem right_of_11 (F : Frm) (h : fits 11 F) : rightB 11 F = true := by
  simp only [fits] at h
  simp only [rightB, allNN, List.all_cons, List.all_nil, Bool.and_true, Bool.and_eq_true, decide_eq_true_eq]
  (repeat' apply And.intro) <;> first | omega | exact h.2.2 | exact h.2.1.2
theorem fits_12 (F : Frm) (hw : F.wf) (h : rightB 12 F = true) : fits 12 F := by
  have w_pn := hw.pn; have w_n := hw.n; have w_fi := hw.fi; have w_fn := hw.fn; have w_ti := hw.ti; have w_tn := hw.tn; have w_vn := hw.vn; have w_op := hw.op; have w_ttl := hw.ttl; unfold I64 at *
  simp only [rightB, allNN, List.all_cons, List.all_nil, Bool.and_true, Bool.and_eq_true, decide_eq_true_eq] at h
  simp only [fits]
  (repeat' apply And.intro) <;> first | omega | exact h.2.2 | exact h.1.1.2.2 | exact h.2.1.2.2 | exact h.1.2.2
theorem right_of_12 (F : Frm) (h : fits 12 F) : rightB 12 F = true := by
  simp only [fits] at h
  simp only [rightB, allNN, List.all_cons, List.all_nil, Bool.and_true, Bool.and_eq_true, decide_eq_true_eq]
  (repeat' apply And.intro) <;> first | omega | exact h.2.2 | exact h.2.1.2
end Go.Proofs
namespace Go.Proofs
open Go Go.SL
set_option maxRecDepth 100000
theorem frmc_one (F : Frm) : F.fc.c.all SV.one = true := frm_one F
theorem frmF_flat (F : Frm) : SV.flatL F.fc.c = true := by unfold Frm.fc; exact frm_flat ..
theorem ifc_flat (T : TypeId) (v : SV) (h : v.flat = true) : (SV.ifc T v).flat = true := by unfold SV.flat; exact h
def rest5 (fn : Func) : Option Go.Code :=
  match fn.body with
  | some (Go.Code.seq _ (Go.Code.seq _ (Go.Code.seq _ (Go.Code.seq _ (Go.Code.seq _ c))))) => some c
  | _ => none
def encqc0 :=
  (aI (aI (aI @DR.one (aI @H1.one @PT.one)) (aI (aI @SU.one @bdset_a) (aI @brow_flat @frm_flat))) (aI (aI (aI @idrs_flat @lrows_flat) (aI @trows_flat @zD.eq_1)) (aI (aI @zE.eq_1 @zF.eq_1) (aI @zH.eq_1 @zK.eq_1))))
def encqb0 :=
  (aI (aI (aI encqc0 @DR.c_length) (aI @FC.c_length @H1.c_length)) (aI (aI @PT.c_length @SU.c_length) (aI @frmF_flat @frmc_one)))
def encqc1 :=
  (aI (aI (aI (aI @FC.part (aI @H1.at_fi @H1.at_fn)) (aI @H1.at_ti (aI @H1.at_tn @H1.part_a))) (aI (aI @H1.set_all (aI @Int.cast_ofNat_Int @List.replicate_succ.{0})) (aI (aI @List.replicate_zero.{0} @SKren_row) (aI @after_mk @al210)))) (aI (aI (aI @al214 (aI @al218 @cellAt_succ)) (aI @cellAt_zero (aI @mergeL_done @mergeL_own))) (aI (aI @renL_cons (aI @renL_flat @renL_nil)) (aI (aI @ren_tup @sop_assert) (aI @splice_0 @splice_c)))))
def encqc2 :=
  (aI (aI (aI (aI (aI @beq_self_eq_true.{0} @brun_a) (aI @cond_false.{1} (aI @cond_true.{1} @tab.a144))) (aI (aI @tab.a145 (aI @tab.a151 @tab.a2)) (aI @tab.a23 (aI @tab.a35 @tab.a4)))) (aI (aI (aI @tab.f135x0 @tab.f135x1) (aI @tab.f210x0 (aI @tab.f210x1 @tab.f210x2))) (aI (aI @tab.f210x3 (aI @tab.f214x0 @tab.f214x1)) (aI @tab.f214x2 (aI @tab.f218x0 @tab.f218x1))))) (aI (aI (aI (aI @tab.f218x2 @tab.f222x0) (aI @tab.f226x0 (aI @tab.f226x1 @tab.f226x2))) (aI (aI @tab.f226x3 (aI @tab.f230x0 @tab.f232x0)) (aI @tab.f232x1 (aI @tab.s144 @tab.s145)))) (aI (aI (aI @tab.s151 (aI @tab.s2 @tab.s210)) (aI @tab.s214 (aI @tab.s218 @tab.s226))) (aI (aI @tab.s23 (aI @tab.s230 @tab.s232)) (aI @tab.s35 (aI @tab.s4 @tab.u35))))))
def encqb1 :=
  (aI (aI encqc1 (aI encqc2 @FC.c_length)) (aI (aI @H1.c_length @b222) (aI @bs69_1 @sop_inv)))
def encqb2 :=
  (aI (aI (aI encqc1 (aI encqc2 @FC.c_length)) (aI @H1.c_length (aI @b222 @bs69_1))) (aI (aI @bwk_a (aI @eq_self.{1} @forall_const.{1})) (aI @implies_true.{0} (aI @implies_true.{1} @sop_inv))))
def encqb4 :=
  (aI (aI (aI @List.length_cons.{0} @List.length_nil.{0}) (aI @Nat.zero_add @roL_in)) (aI (aI @roL_nil @roL_none) (aI @roL_row @ro_mk)))
def encqb5 :=
  (aI (aI (aI encqc1 (aI encqc2 @FC.c_length)) (aI @H1.c_length (aI @b222 @brows_nil))) (aI (aI @bs69_1 (aI @bwk_a @eq_self.{1})) (aI (aI @forall_const.{1} @implies_true.{0}) (aI @implies_true.{1} @sop_inv))))
set_option maxHeartbeats 4000000 in
theorem encR (F : Frm) (T : TypeId) (v : SV) (hv : v.flat = true) (ho : Pure Try.prog 119 [.agg F.fc.c] (.tup [.ifc T v, .v (.bool true)])) (hr : Pure Try.prog 121 [.ifc T v] (.v (.bool false))) : Pure Try.prog 114 [.agg F.fc.c] (.tup [bsl [], .v (.int .i64 1)]) := by
  have hvf := ifc_flat T v hv
  have hvr : ∀ ρ, (SV.ifc T v).ren ρ = .ifc T v := fun ρ => SV.flat_ren ρ _ hvf
  have hve : ∀ (fz : Nat → Option SB) (ρ : Nat → Nat), Ent fz ρ (.ifc T v) (.ifc T v) = True := fun fz ρ => Ent_self _ hvf
  have hfe : ∀ (fz : Nat → Option SB) (ρ : Nat → Nat) (F : Frm), EntL fz ρ F.fc.c F.fc.c = True := fun fz ρ F => eq_true (EntL.self (frmF_flat F))
  refine SCall.mk (fn := Try.f114) (by kernel_rfl) rfl (Nat.le_of_ble_eq_true (by kernel_rfl)) ?_
  refine goC ?_
  simp -dsimp +decide (disch := first | omega | simp +decide only [encqb0]) only [encqb1, ↓brun_b, envOf, Nat.reduceBEq]
  refine SemOps.callw [] cal.f119 (ho) rfl rfl rfl (by simp -dsimp +decide (disch := first | omega | simp +decide only [encqb0]) only [encqb2, ↓brun_b, rho]) rfl (by simp -dsimp +decide (disch := first | omega | simp +decide only [encqb0]) only [encqb2, rho]) (dK rfl) ?_
  refine goK ?_
  simp -dsimp +decide (disch := first | omega | simp +decide only [encqb0]) only [encqb1, ↓brun_b, Nat.reduceBEq, rho, hvr]
  refine Sem.draw' (by kernel_rfl) (.one 0 (.one 1 (.one 2 (.one 3 (.alt 4 (.one 5 (.one 6 (.one 7 (.one 8 (.one 10 (.alt 9 (.alt 11 (.one 12 (.one 13 .done)) .non) .non)))))) .non))))) [] (by kernel_rfl) (fun G ff hG hf => ?_)
  simp +decide only [encqb4] at hG ⊢
  simp -dsimp +decide (disch := first | omega | simp +decide only [encqb0]) only [encqb1, ↓brun_b, Nat.reduceBEq]
  refine OpSem.callw [] cal.f121 (hr) rfl rfl (by simp -dsimp +decide (disch := first | omega | simp +decide only [encqb0]) only [encqb2, ↓brun_b, rho]) rfl (by simp -dsimp +decide (disch := first | omega | simp +decide only [encqb0]) only [encqb2, rho]) (dK rfl) ?_
  simp -dsimp +decide (disch := first | omega | simp +decide only [encqb0]) only [encqb1, ↓brun_b, Nat.reduceBEq, rho]
  refine hf _ (Sem.go (k := 1000) ?_)
  simp +decide only [back_mk, backL_row, backL_nil, Nat.zero_add]
  simp -dsimp +decide (disch := first | omega | simp +decide only [encqb0]) only [encqb1, ↓brun_b]
  refine SQ.answer (rs := [.tmp 2, .tmp 3]) rfl rfl ?_
  simp -dsimp +decide (disch := first | omega | simp +decide only [encqb0]) only [encqb5, ↓brun_b, Nat.reduceBEq, rho, bsl]
set_option maxHeartbeats 4000000 in
theorem encS (F : Frm) (T : TypeId) (v : SV) (hv : v.flat = true) (ho : Pure Try.prog 119 [.agg F.fc.c] (.tup [.ifc T v, .v (.bool true)])) (hr : Pure Try.prog 121 [.ifc T v] (.v (.bool true))) (H : Frm) (hp : Pure Try.prog 123 [.ifc T v] (.agg H.fc.c)) (hs : Pure Try.prog 143 [.agg H.fc.c, .agg F.fc.c] (.v (.bool false))) : Pure Try.prog 114 [.agg F.fc.c] (.tup [bsl [], .v (.int .i64 1)]) := by
  have hvf := ifc_flat T v hv
  have hvr : ∀ ρ, (SV.ifc T v).ren ρ = .ifc T v := fun ρ => SV.flat_ren ρ _ hvf
  have hve : ∀ (fz : Nat → Option SB) (ρ : Nat → Nat), Ent fz ρ (.ifc T v) (.ifc T v) = True := fun fz ρ => Ent_self _ hvf
  have hfe : ∀ (fz : Nat → Option SB) (ρ : Nat → Nat) (F : Frm), EntL fz ρ F.fc.c F.fc.c = True := fun fz ρ F => eq_true (EntL.self (frmF_flat F))
  refine SCall.mk (fn := Try.f114) (by kernel_rfl) rfl (Nat.le_of_ble_eq_true (by kernel_rfl)) ?_
  refine goC ?_
  simp -dsimp +decide (disch := first | omega | simp +decide only [encqb0]) only [encqb1, ↓brun_b, envOf, Nat.reduceBEq]
  refine SemOps.callw [] cal.f119 (ho) rfl rfl rfl (by simp -dsimp +decide (disch := first | omega | simp +decide only [encqb0]) only [encqb2, ↓brun_b, rho]) rfl (by simp -dsimp +decide (disch := first | omega | simp +decide only [encqb0]) only [encqb2, rho]) (dK rfl) ?_
  refine goK ?_
  simp -dsimp +decide (disch := first | omega | simp +decide only [encqb0]) only [encqb1, ↓brun_b, Nat.reduceBEq, rho, hvr]
  refine Sem.draw' (by kernel_rfl) (.one 0 (.one 1 (.one 2 (.one 3 (.alt 4 (.one 5 (.one 6 (.one 7 (.one 8 (.one 10 (.alt 9 (.alt 11 (.one 12 (.one 13 .done)) .non) .non)))))) .non))))) [] (by kernel_rfl) (fun G ff hG hf => ?_)
  simp +decide only [encqb4] at hG ⊢
  simp -dsimp +decide (disch := first | omega | simp +decide only [encqb0]) only [encqb1, ↓brun_b, Nat.reduceBEq]
  refine OpSem.callw [] cal.f121 (hr) rfl rfl (by simp -dsimp +decide (disch := first | omega | simp +decide only [encqb0]) only [encqb2, ↓brun_b, rho]) rfl (by simp -dsimp +decide (disch := first | omega | simp +decide only [encqb0]) only [encqb2, rho]) (dK rfl) ?_
  simp -dsimp +decide (disch := first | omega | simp +decide only [encqb0]) only [encqb1, ↓brun_b, Nat.reduceBEq, rho, hG]
  refine OpSem.callw [] cal.f123 (hp) rfl rfl (by simp -dsimp +decide (disch := first | omega | simp +decide only [encqb0]) only [encqb2, ↓brun_b, Nat.reduceBEq, rho]) rfl (by simp -dsimp +decide (disch := first | omega | simp +decide only [encqb0]) only [encqb2, rho]) (dK rfl) ?_
  simp -dsimp +decide (disch := first | omega | simp +decide only [encqb0]) only [encqb1, ↓brun_b, Nat.reduceBEq, rho]
  refine OpSem.callw [] cal.f143 (hs) rfl rfl (by simp -dsimp +decide (disch := first | omega | simp +decide only [encqb0]) only [encqb2, ↓brun_b, Nat.reduceBEq, rho]) rfl (by simp -dsimp +decide (disch := first | omega | simp +decide only [encqb0]) only [encqb2, rho]) (dK rfl) ?_
  simp -dsimp +decide (disch := first | omega | simp +decide only [encqb0]) only [encqb1, ↓brun_b, Nat.reduceBEq, rho]
  refine hf _ (Sem.go (k := 1000) ?_)
  simp +decide only [back_mk, backL_row, backL_nil, Nat.zero_add]
  simp -dsimp +decide (disch := first | omega | simp +decide only [encqb0]) only [encqb1, ↓brun_b]
  refine SQ.answer (rs := [.tmp 2, .tmp 3]) rfl rfl ?_
  simp -dsimp +decide (disch := first | omega | simp +decide only [encqb0]) only [encqb5, ↓brun_b, Nat.reduceBEq, rho, bsl]
set_option maxHeartbeats 4000000 in
theorem enc_head (F : Frm) (T : TypeId) (v : SV) (hv : v.flat = true) (ho : Pure Try.prog 119 [.agg F.fc.c] (.tup [.ifc T v, .v (.bool true)])) (hr : Pure Try.prog 121 [.ifc T v] (.v (.bool true))) (H : Frm) (hp : Pure Try.prog 123 [.ifc T v] (.agg H.fc.c)) (hs : Pure Try.prog 143 [.agg H.fc.c, .agg F.fc.c] (.v (.bool true))) (k : Int) (hk : 0 ≤ k ∧ k < 100) (fn : FuncId)
    (hm : Meth Try.prog T "Kind" fn) (hc : Cal Try.prog fn) (hkd : Pure Try.prog fn [v] (.v (.int .i64 k))) (R : SE → List (Option SK) → Prop)
    (tail : ∀ c, rest5 Try.f114 = some c → ∀ A : List UInt8, N k = A → Go.SL.Sem Try.prog (SQ Try.prog Try.f114 R) [.code c] ⟨300, 0, [(4, .ifc T v), (6, .ptr 0 0 0)], [some (.row ⟨1, 1, true, 222, fun _ => [.slc 1 0 A.length]⟩), some (.row ⟨1, A.length, true, 5, brow A⟩)]⟩) : SCall Try.prog 114 [.agg F.fc.c] [] R := by
  have hvf := ifc_flat T v hv
  have hvr : ∀ ρ, (SV.ifc T v).ren ρ = .ifc T v := fun ρ => SV.flat_ren ρ _ hvf
  have hve : ∀ (fz : Nat → Option SB) (ρ : Nat → Nat), Ent fz ρ (.ifc T v) (.ifc T v) = True := fun fz ρ => Ent_self _ hvf
  have hfe : ∀ (fz : Nat → Option SB) (ρ : Nat → Nat) (F : Frm), EntL fz ρ F.fc.c F.fc.c = True := fun fz ρ F => eq_true (EntL.self (frmF_flat F))
  refine SCall.mk (fn := Try.f114) (by kernel_rfl) rfl (Nat.le_of_ble_eq_true (by kernel_rfl)) ?_
  refine goC ?_
  simp -dsimp +decide (disch := first | omega | simp +decide only [encqb0]) only [encqb1, ↓brun_b, envOf, Nat.reduceBEq]
  refine SemOps.callw [] cal.f119 (ho) rfl rfl rfl (by simp -dsimp +decide (disch := first | omega | simp +decide only [encqb0]) only [encqb2, ↓brun_b, rho]) rfl (by simp -dsimp +decide (disch := first | omega | simp +decide only [encqb0]) only [encqb2, rho]) (dK rfl) ?_
  refine goK ?_
  simp -dsimp +decide (disch := first | omega | simp +decide only [encqb0]) only [encqb1, ↓brun_b, Nat.reduceBEq, rho, hvr]
  refine Sem.draw' (by kernel_rfl) (.one 0 (.one 1 (.one 2 (.one 3 (.alt 4 (.one 5 (.one 6 (.one 7 (.one 8 (.one 10 (.alt 9 (.alt 11 (.one 12 (.one 13 .done)) .non) .non)))))) .non))))) [] (by kernel_rfl) (fun G ff hG hf => ?_)
  simp +decide only [encqb4] at hG ⊢
  simp -dsimp +decide (disch := first | omega | simp +decide only [encqb0]) only [encqb1, ↓brun_b, Nat.reduceBEq]
  refine OpSem.callw [] cal.f121 (hr) rfl rfl (by simp -dsimp +decide (disch := first | omega | simp +decide only [encqb0]) only [encqb2, ↓brun_b, rho]) rfl (by simp -dsimp +decide (disch := first | omega | simp +decide only [encqb0]) only [encqb2, rho]) (dK rfl) ?_
  simp -dsimp +decide (disch := first | omega | simp +decide only [encqb0]) only [encqb1, ↓brun_b, Nat.reduceBEq, rho, hG]
  refine OpSem.callw [] cal.f123 (hp) rfl rfl (by simp -dsimp +decide (disch := first | omega | simp +decide only [encqb0]) only [encqb2, ↓brun_b, Nat.reduceBEq, rho]) rfl (by simp -dsimp +decide (disch := first | omega | simp +decide only [encqb0]) only [encqb2, rho]) (dK rfl) ?_
  simp -dsimp +decide (disch := first | omega | simp +decide only [encqb0]) only [encqb1, ↓brun_b, Nat.reduceBEq, rho]
  refine OpSem.callw [] cal.f143 (hs) rfl rfl (by simp -dsimp +decide (disch := first | omega | simp +decide only [encqb0]) only [encqb2, ↓brun_b, Nat.reduceBEq, rho]) rfl (by simp -dsimp +decide (disch := first | omega | simp +decide only [encqb0]) only [encqb2, rho]) (dK rfl) ?_
  simp -dsimp +decide (disch := first | omega | simp +decide only [encqb0]) only [encqb1, ↓brun_b, Nat.reduceBEq, rho]
  refine hf _ (Sem.go (k := 1000) ?_)
  simp +decide only [back_mk, backL_row, backL_nil, Nat.zero_add]
  simp -dsimp +decide (disch := first | omega | simp +decide only [encqb0]) only [encqb1, ↓brun_b, Nat.reduceAdd, Nat.reduceBEq]
  refine SemOps.callI rfl rfl rfl hm hc hkd hv rfl (by simp -dsimp +decide (disch := first | omega | simp +decide only [encqb0]) only [encqb1]) ?_
  refine goK ?_
  simp -dsimp +decide (disch := first | omega | simp +decide only [encqb0]) only [encqb1, ↓brun_b, Nat.reduceAdd]
  refine Lent.ops (Lent.ghostB 1 0 1 5 rfl rfl) ?_
  refine SemOps.frz (d := 43) (lrows [k]) rfl rfl rfl (by omega) (fun i r h => ent_icells h) ?_
  have hL0 := N_le k (by omega)
  have c0 := numLay1 k (by omega) [] (by simp only [List.length_nil]; omega)
  unfold ladR bytR at c0
  rw [List.nil_append] at c0
  generalize hA : N k = A at c0 hL0
  refine SemOps.callw [1, 3] cal.f144 (c0) rfl rfl rfl (by simp -dsimp +decide (disch := first | omega | simp +decide only [encqb0]) only [encqb2, ↓brun_b, Nat.reduceAdd, Nat.reduceBEq]) rfl (by simp -dsimp +decide (disch := first | omega | simp +decide only [encqb0]) only [encqb2, Nat.reduceAdd]) (dK rfl) ?_
  refine SemOps.go (k := 0) ?_
  simp -dsimp +decide (disch := first | omega | simp +decide only [encqb0]) only [encqb1, Nat.reduceAdd, rho]
  refine Sem.weaken [1, 4] (s' := ⟨300, 0, [(4, .ifc T v), (6, .ptr 0 0 0)], [some (.row ⟨1, 1, true, 222, fun _ => [.slc 1 0 A.length]⟩), some (.row ⟨1, A.length, true, 5, brow A⟩)]⟩) ?_ ?_
  · (refine Wk.ofC ?_; simp -dsimp +decide (disch := first | omega | simp +decide only [encqb0]) only [encqb2, ↓brun_b, Nat.reduceAdd, Nat.reduceBEq])
  exact tail _ rfl A hA
def dstB (n : Nat) : Option Tmp → Bool
  | none => true
  | some d => Nat.ble (d + 1) n
theorem dOk {s : St} {d : Option Tmp} (h : dstB s.sz d = true) : dstOk s d := fun e he => by
  subst he
  exact Nat.le_of_ble_eq_true h
theorem lcall (j : Nat) {f : FuncId} {more : List SV} {acc : List UInt8} {x : SV} {L1 : List (Option SK)} (hcal : Cal Try.prog f) (hc : SCall Try.prog f (.ptr 0 0 0 :: more) [ladR 1 acc, bytR acc] fun r L => r = .ret x ∧ L = L1)
    {Q : SX → St → Prop} {K : List It} {s : St} {all rest : List Oper} {op : Oper} {fo : Operand} {argos : Array Operand} {ats : Array TypeId} (hop : op.op = .call ⟨.value fo, argos, ats⟩) (hg : op.guard = none) (hfv : seval s.env fo = .fn (.func f) [] [])
    (hargs : argos.toList.map (seval s.env) = .ptr 0 0 0 :: more) (hm : SV.flatL more = true) (hj : nodupN [0, j] = true) (h0 : getL s.L 0 = ladR j acc) (h1 : getL s.L j = bytR acc) (hd : dstB s.sz op.dst = true)
    (next : SemOps Try.prog Q all rest K ((s.after [0, j] [ladR 1 acc, bytR acc] L1).put op.dst (x.ren (rho [0, j] s.L.length)))) : SemOps Try.prog Q all (op :: rest) K s := by
  refine SemOps.callw [0, j] hcal hc hop hg hfv ?_ hj ?_ (dOk hd) next
  · rw [hargs]
    exact ⟨_, _, rfl, rfl, EntL.self hm⟩
  · refine And.intro ?_ (And.intro ?_ trivial)
    · rw [h0]
      exact ⟨rfl, rfl, rfl, fun h => h, fun e _ => ⟨_, _, rfl, rfl, rfl⟩⟩
    · rw [h1]
      exact EntK_flat fun e => brow_flat _ _
end Go.Proofs
namespace Go.Proofs
open Go Go.SL
set_option maxRecDepth 100000
def encqb6 :=
  (aI (aI (aI encqc0 @DR.c_length) (aI @FC.c_length @FC.one_eq)) (aI (aI @H1.c_length @PT.c_length) (aI @SU.c_length @p144_flat)))
def encqc3 :=
  (aI (aI (aI (aI @DR.part_P @DR.set_all) (aI @PT.at_toA @PT.part_P)) (aI (aI @PT.set_all @SU.at_tr) (aI @SU.part_P @SU.part_a))) (aI (aI (aI @SU.part_b @SU.set_all) (aI @al226 @al230)) (aI (aI @al232 @hit226) (aI @hit230 @hit232))))
def encqc4 :=
  (aI (aI (aI @bs44_1 @bs69_4) (aI @bs69_5 @bs79)) (aI (aI @bs79_2 @hit210) (aI @hit214 @hit218)))
def encqb7 :=
  (aI (aI (aI encqc3 encqc1) (aI encqc2 (aI encqc4 @DR.c_length))) (aI (aI @FC.c_length (aI @H1.c_length @PT.c_length)) (aI @SU.c_length (aI @b222 @bs69_1))))
def encqb8 :=
  (aI (aI (aI (aI encqc3 encqc1) (aI encqc2 encqc4)) (aI (aI @DR.c_length @FC.c_length) (aI @H1.c_length @PT.c_length))) (aI (aI (aI @SU.c_length @b222) (aI @bs69_1 @bwk_a)) (aI (aI @eq_self.{1} @forall_const.{1}) (aI @implies_true.{0} @implies_true.{1}))))
set_option maxHeartbeats 8000000 in
theorem enc_5 (F : Frm) (hw : F.wf) (hk : F.kind = 5) (hr : rightB 5 F = true) (hs : frmEq (bare 5 F) F = true) : SCall Try.prog 114 [.agg F.fc.c] [] fun r L => r = .ret (.tup [.slc 0 0 (bytesB F).length, .v (.int .i64 0)]) ∧ L = [bytR (bytesB F)] := by
  have hft := fits_5 F hw hr
  simp only [fits] at hft
  have b_ltx : F.tx.length ≤ 140737488355328 := wfB hw
  have b_lval : F.val.length ≤ 140737488355328 := wfA hw
  have b_ltr : F.tr.length * 8 ≤ 140737488355328 := wfC hw
  have b_lis : F.is.length * 16 ≤ 140737488355328 := wfD hw
  have h1 : F.tr.length < 4611686018427387904 := wfE hw
  have h2 : F.is.length < 4611686018427387904 := wfG hw
  have hright := right_k5 F
  rw [hr] at hright
  have hsame := same143_calls (bare 5 F) F (by show 0 < 4611686018427387904; decide) (by show 0 < 4611686018427387904; decide) h1 h2
  rw [hs] at hsame
  refine enc_head F 230 _ (bodyF_5 F) (of_k5 F hk) hright _ (plainB_5 F) hsame 5 (by decide) 194 meth230 cal.f194 (kind_k5 F) _ fun c hc A hA => ?_
  cases hc
  have hL0 := N_le 5 (by decide)
  rw [hA] at hL0
  refine goC ?_
  simp -dsimp +decide (disch := first | omega | simp +decide only [encqb6]) only [encqb7, ↓brun_b, Nat.reduceAdd, Nat.reduceBEq, fun v => miss214 230 v (by decide), fun v => miss210 230 v (by decide), fun v => miss218 230 v (by decide), fun v => miss226 230 v (by decide)]
  have hk1 : (iB F.who ++ N F.pn).length ≤ 25 := by have := N_le F.pn (by omega); simp only [List.length_append, iB_length]; omega
  have c1 := (path_lays F.who F.pn (by omega)) A (by omega)
  have hL1 : (A ++ (iB F.who ++ N F.pn)).length = A.length + ((iB F.who ++ N F.pn)).length := List.length_append
  generalize hA1 : A ++ (iB F.who ++ N F.pn) = A1 at c1 hL1
  refine lcall 1 cal.f146 c1 rfl rfl rfl rfl (by simp only [bflat_a, p144_flat]) rfl rfl rfl rfl ?_
  refine goK ?_
  simp -dsimp +decide (disch := first | omega | simp +decide only [encqb6]) only [encqb7, ↓brun_b, Nat.reduceAdd, Nat.reduceBEq, rho, ladR, bytR]
  have hE : bytesB F = A1 := by
    have hkk : F.k = 5 := by unfold Frm.k; rw [hk]; rfl
    have h0 : N 5 = form 5 := rfl
    unfold bytesB
    rw [hkk, ← hA1, ← hA, h0]
    simp only [bodyB]
  rw [hE]
  refine SQ.runL (rs := [.tmp 2, .tmp 3]) [3] _ _ rfl (And.intro rfl rfl) (by decide) rfl rfl ?_ ?_
  · simp -dsimp +decide (disch := first | omega | simp +decide only [encqb6]) only [encqb8, Nat.reduceAdd]
  · simp -dsimp +decide (disch := first | omega | simp +decide only [encqb6]) only [encqb8, ↓brun_b, Nat.reduceAdd, Nat.reduceBEq]
end Go.Proofs
namespace Go.Proofs
open Go Go.SL
set_option maxRecDepth 100000
theorem encR_1 (F : Frm) (hw : F.wf) (hk : F.kind = 1) (hr : rightB 1 F = false) : Pure Try.prog 114 [.agg F.fc.c] (.tup [bsl [], .v (.int .i64 1)]) := by
  have b_ltx : F.tx.length ≤ 140737488355328 := wfB hw
  have b_lval : F.val.length ≤ 140737488355328 := wfA hw
  have b_ltr : F.tr.length * 8 ≤ 140737488355328 := wfC hw
  have b_lis : F.is.length * 16 ≤ 140737488355328 := wfD hw
  have h1 : F.tr.length < 4611686018427387904 := wfE hw
  have h2 : F.is.length < 4611686018427387904 := wfG hw
  have hright := right_k1 F
  rw [hr] at hright
  exact encR F 214 _ (bodyF_1 F) (of_hello F hk) hright
theorem encS_1 (F : Frm) (hw : F.wf) (hk : F.kind = 1) (hr : rightB 1 F = true) (hs : frmEq (bare 1 F) F = false) : Pure Try.prog 114 [.agg F.fc.c] (.tup [bsl [], .v (.int .i64 1)]) := by
  have b_ltx : F.tx.length ≤ 140737488355328 := wfB hw
  have b_lval : F.val.length ≤ 140737488355328 := wfA hw
  have b_ltr : F.tr.length * 8 ≤ 140737488355328 := wfC hw
  have b_lis : F.is.length * 16 ≤ 140737488355328 := wfD hw
  have h1 : F.tr.length < 4611686018427387904 := wfE hw
  have h2 : F.is.length < 4611686018427387904 := wfG hw
  have hright := right_k1 F
  rw [hr] at hright
  have hsame := same143_calls (bare 1 F) F (by show 0 < 4611686018427387904; decide) (by show 0 < 4611686018427387904; decide) h1 h2
  rw [hs] at hsame
  exact encS F 214 _ (bodyF_1 F) (of_hello F hk) hright _ (plainB_1 F) hsame
theorem encR_2 (F : Frm) (hw : F.wf) (hk : F.kind = 2) (hr : rightB 2 F = false) : Pure Try.prog 114 [.agg F.fc.c] (.tup [bsl [], .v (.int .i64 1)]) := by
  have b_ltx : F.tx.length ≤ 140737488355328 := wfB hw
  have b_lval : F.val.length ≤ 140737488355328 := wfA hw
  have b_ltr : F.tr.length * 8 ≤ 140737488355328 := wfC hw
  have b_lis : F.is.length * 16 ≤ 140737488355328 := wfD hw
  have h1 : F.tr.length < 4611686018427387904 := wfE hw
  have h2 : F.is.length < 4611686018427387904 := wfG hw
  have hright := right_k2 F
  rw [hr] at hright
  exact encR F 210 _ (bodyF_2 F) (of_data F hk b_ltx) hright
theorem encS_2 (F : Frm) (hw : F.wf) (hk : F.kind = 2) (hr : rightB 2 F = true) (hs : frmEq (bare 2 F) F = false) : Pure Try.prog 114 [.agg F.fc.c] (.tup [bsl [], .v (.int .i64 1)]) := by
  have b_ltx : F.tx.length ≤ 140737488355328 := wfB hw
  have b_lval : F.val.length ≤ 140737488355328 := wfA hw
  have b_ltr : F.tr.length * 8 ≤ 140737488355328 := wfC hw
  have b_lis : F.is.length * 16 ≤ 140737488355328 := wfD hw
  have h1 : F.tr.length < 4611686018427387904 := wfE hw
  have h2 : F.is.length < 4611686018427387904 := wfG hw
  have hright := right_k2 F
  rw [hr] at hright
  have hsame := same143_calls (bare 2 F) F (by show 0 < 4611686018427387904; decide) (by show 0 < 4611686018427387904; decide) h1 h2
  rw [hs] at hsame
  exact encS F 210 _ (bodyF_2 F) (of_data F hk b_ltx) hright _ (plainB_2 F b_ltx) hsame
theorem encR_3 (F : Frm) (hw : F.wf) (hk : F.kind = 3) (hr : rightB 3 F = false) : Pure Try.prog 114 [.agg F.fc.c] (.tup [bsl [], .v (.int .i64 1)]) := by
  have b_ltx : F.tx.length ≤ 140737488355328 := wfB hw
  have b_lval : F.val.length ≤ 140737488355328 := wfA hw
  have b_ltr : F.tr.length * 8 ≤ 140737488355328 := wfC hw
  have b_lis : F.is.length * 16 ≤ 140737488355328 := wfD hw
  have h1 : F.tr.length < 4611686018427387904 := wfE hw
  have h2 : F.is.length < 4611686018427387904 := wfG hw
  have hright := right_k3 F
  rw [hr] at hright
  exact encR F 218 _ (bodyF_3 F) (of_ack F hk) hright
theorem encS_3 (F : Frm) (hw : F.wf) (hk : F.kind = 3) (hr : rightB 3 F = true) (hs : frmEq (bare 3 F) F = false) : Pure Try.prog 114 [.agg F.fc.c] (.tup [bsl [], .v (.int .i64 1)]) := by
  have b_ltx : F.tx.length ≤ 140737488355328 := wfB hw
  have b_lval : F.val.length ≤ 140737488355328 := wfA hw
  have b_ltr : F.tr.length * 8 ≤ 140737488355328 := wfC hw
  have b_lis : F.is.length * 16 ≤ 140737488355328 := wfD hw
  have h1 : F.tr.length < 4611686018427387904 := wfE hw
  have h2 : F.is.length < 4611686018427387904 := wfG hw
  have hright := right_k3 F
  rw [hr] at hright
  have hsame := same143_calls (bare 3 F) F (by show 0 < 4611686018427387904; decide) (by show 0 < 4611686018427387904; decide) h1 h2
  rw [hs] at hsame
  exact encS F 218 _ (bodyF_3 F) (of_ack F hk) hright _ (plainB_3 F) hsame
theorem encR_4 (F : Frm) (hw : F.wf) (hk : F.kind = 4) (hr : rightB 4 F = false) : Pure Try.prog 114 [.agg F.fc.c] (.tup [bsl [], .v (.int .i64 1)]) := by
  have b_ltx : F.tx.length ≤ 140737488355328 := wfB hw
  have b_lval : F.val.length ≤ 140737488355328 := wfA hw
  have b_ltr : F.tr.length * 8 ≤ 140737488355328 := wfC hw
  have b_lis : F.is.length * 16 ≤ 140737488355328 := wfD hw
  have h1 : F.tr.length < 4611686018427387904 := wfE hw
  have h2 : F.is.length < 4611686018427387904 := wfG hw
  have hright := right_k4 F h1
  rw [hr] at hright
  exact encR F 226 _ (bodyF_4 F) (of_k4 F hk b_ltr) hright
theorem encS_4 (F : Frm) (hw : F.wf) (hk : F.kind = 4) (hr : rightB 4 F = true) (hs : frmEq (bare 4 F) F = false) : Pure Try.prog 114 [.agg F.fc.c] (.tup [bsl [], .v (.int .i64 1)]) := by
  have b_ltx : F.tx.length ≤ 140737488355328 := wfB hw
  have b_lval : F.val.length ≤ 140737488355328 := wfA hw
  have b_ltr : F.tr.length * 8 ≤ 140737488355328 := wfC hw
  have b_lis : F.is.length * 16 ≤ 140737488355328 := wfD hw
  have h1 : F.tr.length < 4611686018427387904 := wfE hw
  have h2 : F.is.length < 4611686018427387904 := wfG hw
  have hright := right_k4 F h1
  rw [hr] at hright
  have hsame := same143_calls (bare 4 F) F h1 (by show 0 < 4611686018427387904; decide) h1 h2
  rw [hs] at hsame
  exact encS F 226 _ (bodyF_4 F) (of_k4 F hk b_ltr) hright _ (plainB_4 F b_ltr) hsame
theorem encR_5 (F : Frm) (hw : F.wf) (hk : F.kind = 5) (hr : rightB 5 F = false) : Pure Try.prog 114 [.agg F.fc.c] (.tup [bsl [], .v (.int .i64 1)]) := by
  have b_ltx : F.tx.length ≤ 140737488355328 := wfB hw
  have b_lval : F.val.length ≤ 140737488355328 := wfA hw
  have b_ltr : F.tr.length * 8 ≤ 140737488355328 := wfC hw
  have b_lis : F.is.length * 16 ≤ 140737488355328 := wfD hw
  have h1 : F.tr.length < 4611686018427387904 := wfE hw
  have h2 : F.is.length < 4611686018427387904 := wfG hw
  have hright := right_k5 F
  rw [hr] at hright
  exact encR F 230 _ (bodyF_5 F) (of_k5 F hk) hright
theorem encS_5 (F : Frm) (hw : F.wf) (hk : F.kind = 5) (hr : rightB 5 F = true) (hs : frmEq (bare 5 F) F = false) : Pure Try.prog 114 [.agg F.fc.c] (.tup [bsl [], .v (.int .i64 1)]) := by
  have b_ltx : F.tx.length ≤ 140737488355328 := wfB hw
  have b_lval : F.val.length ≤ 140737488355328 := wfA hw
  have b_ltr : F.tr.length * 8 ≤ 140737488355328 := wfC hw
  have b_lis : F.is.length * 16 ≤ 140737488355328 := wfD hw
  have h1 : F.tr.length < 4611686018427387904 := wfE hw
  have h2 : F.is.length < 4611686018427387904 := wfG hw
  have hright := right_k5 F
  rw [hr] at hright
  have hsame := same143_calls (bare 5 F) F (by show 0 < 4611686018427387904; decide) (by show 0 < 4611686018427387904; decide) h1 h2
  rw [hs] at hsame
  exact encS F 230 _ (bodyF_5 F) (of_k5 F hk) hright _ (plainB_5 F) hsame
theorem encR_6 (F : Frm) (hw : F.wf) (hk : F.kind = 6) (hr : rightB 6 F = false) : Pure Try.prog 114 [.agg F.fc.c] (.tup [bsl [], .v (.int .i64 1)]) := by
  have b_ltx : F.tx.length ≤ 140737488355328 := wfB hw
  have b_lval : F.val.length ≤ 140737488355328 := wfA hw
  have b_ltr : F.tr.length * 8 ≤ 140737488355328 := wfC hw
  have b_lis : F.is.length * 16 ≤ 140737488355328 := wfD hw
  have h1 : F.tr.length < 4611686018427387904 := wfE hw
  have h2 : F.is.length < 4611686018427387904 := wfG hw
  have hright := right_k6 F
  rw [hr] at hright
  exact encR F 232 _ (bodyF_6 F) (of_k6 F hk) hright
theorem encS_6 (F : Frm) (hw : F.wf) (hk : F.kind = 6) (hr : rightB 6 F = true) (hs : frmEq (bare 6 F) F = false) : Pure Try.prog 114 [.agg F.fc.c] (.tup [bsl [], .v (.int .i64 1)]) := by
  have b_ltx : F.tx.length ≤ 140737488355328 := wfB hw
  have b_lval : F.val.length ≤ 140737488355328 := wfA hw
  have b_ltr : F.tr.length * 8 ≤ 140737488355328 := wfC hw
  have b_lis : F.is.length * 16 ≤ 140737488355328 := wfD hw
  have h1 : F.tr.length < 4611686018427387904 := wfE hw
  have h2 : F.is.length < 4611686018427387904 := wfG hw
  have hright := right_k6 F
  rw [hr] at hright
  have hsame := same143_calls (bare 6 F) F (by show 0 < 4611686018427387904; decide) (by show 0 < 4611686018427387904; decide) h1 h2
  rw [hs] at hsame
  exact encS F 232 _ (bodyF_6 F) (of_k6 F hk) hright _ (plainB_6 F) hsame
theorem encR_7 (F : Frm) (hw : F.wf) (hk : F.kind = 7) (hr : rightB 7 F = false) : Pure Try.prog 114 [.agg F.fc.c] (.tup [bsl [], .v (.int .i64 1)]) := by
  have b_ltx : F.tx.length ≤ 140737488355328 := wfB hw
  have b_lval : F.val.length ≤ 140737488355328 := wfA hw
  have b_ltr : F.tr.length * 8 ≤ 140737488355328 := wfC hw
  have b_lis : F.is.length * 16 ≤ 140737488355328 := wfD hw
  have h1 : F.tr.length < 4611686018427387904 := wfE hw
  have h2 : F.is.length < 4611686018427387904 := wfG hw
  have hright := right_k7 F
  rw [hr] at hright
  exact encR F 235 _ (bodyF_7 F) (of_k7 F hk b_lis) hright
theorem encS_7 (F : Frm) (hw : F.wf) (hk : F.kind = 7) (hr : rightB 7 F = true) (hs : frmEq (bare 7 F) F = false) : Pure Try.prog 114 [.agg F.fc.c] (.tup [bsl [], .v (.int .i64 1)]) := by
  have b_ltx : F.tx.length ≤ 140737488355328 := wfB hw
  have b_lval : F.val.length ≤ 140737488355328 := wfA hw
  have b_ltr : F.tr.length * 8 ≤ 140737488355328 := wfC hw
  have b_lis : F.is.length * 16 ≤ 140737488355328 := wfD hw
  have h1 : F.tr.length < 4611686018427387904 := wfE hw
  have h2 : F.is.length < 4611686018427387904 := wfG hw
  have hright := right_k7 F
  rw [hr] at hright
  have hsame := same143_calls (bare 7 F) F (by show 0 < 4611686018427387904; decide) h2 h1 h2
  rw [hs] at hsame
  exact encS F 235 _ (bodyF_7 F) (of_k7 F hk b_lis) hright _ (plainB_7 F b_lis) hsame
theorem encR_8 (F : Frm) (hw : F.wf) (hk : F.kind = 8) (hr : rightB 8 F = false) : Pure Try.prog 114 [.agg F.fc.c] (.tup [bsl [], .v (.int .i64 1)]) := by
  have b_ltx : F.tx.length ≤ 140737488355328 := wfB hw
  have b_lval : F.val.length ≤ 140737488355328 := wfA hw
  have b_ltr : F.tr.length * 8 ≤ 140737488355328 := wfC hw
  have b_lis : F.is.length * 16 ≤ 140737488355328 := wfD hw
  have h1 : F.tr.length < 4611686018427387904 := wfE hw
  have h2 : F.is.length < 4611686018427387904 := wfG hw
  have hright := right_k8 F h1
  rw [hr] at hright
  exact encR F 237 _ (bodyF_8 F) (of_k8 F hk b_ltr) hright
theorem encS_8 (F : Frm) (hw : F.wf) (hk : F.kind = 8) (hr : rightB 8 F = true) (hs : frmEq (bare 8 F) F = false) : Pure Try.prog 114 [.agg F.fc.c] (.tup [bsl [], .v (.int .i64 1)]) := by
  have b_ltx : F.tx.length ≤ 140737488355328 := wfB hw
  have b_lval : F.val.length ≤ 140737488355328 := wfA hw
  have b_ltr : F.tr.length * 8 ≤ 140737488355328 := wfC hw
  have b_lis : F.is.length * 16 ≤ 140737488355328 := wfD hw
  have h1 : F.tr.length < 4611686018427387904 := wfE hw
  have h2 : F.is.length < 4611686018427387904 := wfG hw
  have hright := right_k8 F h1
  rw [hr] at hright
  have hsame := same143_calls (bare 8 F) F h1 (by show 0 < 4611686018427387904; decide) h1 h2
  rw [hs] at hsame
  exact encS F 237 _ (bodyF_8 F) (of_k8 F hk b_ltr) hright _ (plainB_8 F b_ltr) hsame
theorem encR_9 (F : Frm) (hw : F.wf) (hk : F.kind = 9) (hr : rightB 9 F = false) : Pure Try.prog 114 [.agg F.fc.c] (.tup [bsl [], .v (.int .i64 1)]) := by
  have b_ltx : F.tx.length ≤ 140737488355328 := wfB hw
  have b_lval : F.val.length ≤ 140737488355328 := wfA hw
  have b_ltr : F.tr.length * 8 ≤ 140737488355328 := wfC hw
  have b_lis : F.is.length * 16 ≤ 140737488355328 := wfD hw
  have h1 : F.tr.length < 4611686018427387904 := wfE hw
  have h2 : F.is.length < 4611686018427387904 := wfG hw
  have hright := right_k9 F
  rw [hr] at hright
  exact encR F 239 _ (bodyF_9 F) (of_k9 F hk) hright
theorem encS_9 (F : Frm) (hw : F.wf) (hk : F.kind = 9) (hr : rightB 9 F = true) (hs : frmEq (bare 9 F) F = false) : Pure Try.prog 114 [.agg F.fc.c] (.tup [bsl [], .v (.int .i64 1)]) := by
  have b_ltx : F.tx.length ≤ 140737488355328 := wfB hw
  have b_lval : F.val.length ≤ 140737488355328 := wfA hw
  have b_ltr : F.tr.length * 8 ≤ 140737488355328 := wfC hw
  have b_lis : F.is.length * 16 ≤ 140737488355328 := wfD hw
  have h1 : F.tr.length < 4611686018427387904 := wfE hw
  have h2 : F.is.length < 4611686018427387904 := wfG hw
  have hright := right_k9 F
  rw [hr] at hright
  have hsame := same143_calls (bare 9 F) F (by show 0 < 4611686018427387904; decide) (by show 0 < 4611686018427387904; decide) h1 h2
  rw [hs] at hsame
  exact encS F 239 _ (bodyF_9 F) (of_k9 F hk) hright _ (plainB_9 F) hsame
theorem encR_10 (F : Frm) (hw : F.wf) (hk : F.kind = 10) (hr : rightB 10 F = false) : Pure Try.prog 114 [.agg F.fc.c] (.tup [bsl [], .v (.int .i64 1)]) := by
  have b_ltx : F.tx.length ≤ 140737488355328 := wfB hw
  have b_lval : F.val.length ≤ 140737488355328 := wfA hw
  have b_ltr : F.tr.length * 8 ≤ 140737488355328 := wfC hw
  have b_lis : F.is.length * 16 ≤ 140737488355328 := wfD hw
  have h1 : F.tr.length < 4611686018427387904 := wfE hw
  have h2 : F.is.length < 4611686018427387904 := wfG hw
  have hright := right_k10 F
  rw [hr] at hright
  exact encR F 241 _ (bodyF_10 F) (of_k10 F hk b_ltx b_lval) hright
theorem encS_10 (F : Frm) (hw : F.wf) (hk : F.kind = 10) (hr : rightB 10 F = true) (hs : frmEq (bare 10 F) F = false) : Pure Try.prog 114 [.agg F.fc.c] (.tup [bsl [], .v (.int .i64 1)]) := by
  have b_ltx : F.tx.length ≤ 140737488355328 := wfB hw
  have b_lval : F.val.length ≤ 140737488355328 := wfA hw
  have b_ltr : F.tr.length * 8 ≤ 140737488355328 := wfC hw
  have b_lis : F.is.length * 16 ≤ 140737488355328 := wfD hw
  have h1 : F.tr.length < 4611686018427387904 := wfE hw
  have h2 : F.is.length < 4611686018427387904 := wfG hw
  have hright := right_k10 F
  rw [hr] at hright
  have hsame := same143_calls (bare 10 F) F (by show 0 < 4611686018427387904; decide) (by show 0 < 4611686018427387904; decide) h1 h2
  rw [hs] at hsame
  exact encS F 241 _ (bodyF_10 F) (of_k10 F hk b_ltx b_lval) hright _ (plainB_10 F b_ltx b_lval) hsame
theorem encR_11 (F : Frm) (hw : F.wf) (hk : F.kind = 11) (hr : rightB 11 F = false) : Pure Try.prog 114 [.agg F.fc.c] (.tup [bsl [], .v (.int .i64 1)]) := by
  have b_ltx : F.tx.length ≤ 140737488355328 := wfB hw
  have b_lval : F.val.length ≤ 140737488355328 := wfA hw
  have b_ltr : F.tr.length * 8 ≤ 140737488355328 := wfC hw
  have b_lis : F.is.length * 16 ≤ 140737488355328 := wfD hw
  have h1 : F.tr.length < 4611686018427387904 := wfE hw
  have h2 : F.is.length < 4611686018427387904 := wfG hw
  have hright := right_k11 F
  rw [hr] at hright
  exact encR F 244 _ (bodyF_11 F) (of_k11 F hk b_lval) hright
theorem encS_11 (F : Frm) (hw : F.wf) (hk : F.kind = 11) (hr : rightB 11 F = true) (hs : frmEq (bare 11 F) F = false) : Pure Try.prog 114 [.agg F.fc.c] (.tup [bsl [], .v (.int .i64 1)]) := by
  have b_ltx : F.tx.length ≤ 140737488355328 := wfB hw
  have b_lval : F.val.length ≤ 140737488355328 := wfA hw
  have b_ltr : F.tr.length * 8 ≤ 140737488355328 := wfC hw
  have b_lis : F.is.length * 16 ≤ 140737488355328 := wfD hw
  have h1 : F.tr.length < 4611686018427387904 := wfE hw
  have h2 : F.is.length < 4611686018427387904 := wfG hw
  have hright := right_k11 F
  rw [hr] at hright
  have hsame := same143_calls (bare 11 F) F (by show 0 < 4611686018427387904; decide) (by show 0 < 4611686018427387904; decide) h1 h2
  rw [hs] at hsame
  exact encS F 244 _ (bodyF_11 F) (of_k11 F hk b_lval) hright _ (plainB_11 F b_lval) hsame
theorem encR_12 (F : Frm) (hw : F.wf) (hk : F.kind = 12) (hr : rightB 12 F = false) : Pure Try.prog 114 [.agg F.fc.c] (.tup [bsl [], .v (.int .i64 1)]) := by
  have b_ltx : F.tx.length ≤ 140737488355328 := wfB hw
  have b_lval : F.val.length ≤ 140737488355328 := wfA hw
  have b_ltr : F.tr.length * 8 ≤ 140737488355328 := wfC hw
  have b_lis : F.is.length * 16 ≤ 140737488355328 := wfD hw
  have h1 : F.tr.length < 4611686018427387904 := wfE hw
  have h2 : F.is.length < 4611686018427387904 := wfG hw
  have hright := right_k12 F
  rw [hr] at hright
  exact encR F 246 _ (bodyF_12 F) (of_k12 F hk) hright
theorem encS_12 (F : Frm) (hw : F.wf) (hk : F.kind = 12) (hr : rightB 12 F = true) (hs : frmEq (bare 12 F) F = false) : Pure Try.prog 114 [.agg F.fc.c] (.tup [bsl [], .v (.int .i64 1)]) := by
  have b_ltx : F.tx.length ≤ 140737488355328 := wfB hw
  have b_lval : F.val.length ≤ 140737488355328 := wfA hw
  have b_ltr : F.tr.length * 8 ≤ 140737488355328 := wfC hw
  have b_lis : F.is.length * 16 ≤ 140737488355328 := wfD hw
  have h1 : F.tr.length < 4611686018427387904 := wfE hw
  have h2 : F.is.length < 4611686018427387904 := wfG hw
  have hright := right_k12 F
  rw [hr] at hright
  have hsame := same143_calls (bare 12 F) F (by show 0 < 4611686018427387904; decide) (by show 0 < 4611686018427387904; decide) h1 h2
  rw [hs] at hsame
  exact encS F 246 _ (bodyF_12 F) (of_k12 F hk) hright _ (plainB_12 F) hsame
def encqb9 :=
  (aI (aI (aI encqc0 @DR.c_length) (aI @FC.c_length @FC.one_eq)) (aI (aI @H1.c_length @PT.c_length) (aI @SU.c_length @frmF_flat)))
def encqb10 :=
  (aI (aI (aI encqc3 encqc1) (aI encqc2 @DR.c_length)) (aI (aI @FC.c_length @H1.c_length) (aI @PT.c_length @SU.c_length)))
def encqb11 :=
  (aI (aI (aI encqc3 (aI encqc1 encqc2)) (aI (aI @DR.c_length @FC.c_length) (aI @H1.c_length @PT.c_length))) (aI (aI @SU.c_length (aI @brows_nil @bwk_a)) (aI (aI @eq_self.{1} @forall_const.{1}) (aI @implies_true.{0} @implies_true.{1}))))
set_option maxHeartbeats 4000000 in
theorem encN (F : Frm) (hw : F.wf) (hk : F.kind < 1 ∨ 12 < F.kind) : Pure Try.prog 114 [.agg F.fc.c] (.tup [bsl [], .v (.int .i64 1)]) := by
  refine SCall.mk (fn := Try.f114) (by kernel_rfl) rfl (Nat.le_of_ble_eq_true (by kernel_rfl)) ?_
  refine goC ?_
  simp -dsimp +decide (disch := first | omega | simp +decide only [encqb9]) only [encqb10, ↓brun_b, envOf, Nat.reduceBEq, Frm.fc]
  refine SemOps.callq (k := 1000) cal.f119 (of_none F hk) rfl rfl rfl rfl (by simp only [bflat_a, frmF_flat]) (by simp only [bflat_a]) (dK rfl) ?_
  simp -dsimp +decide (disch := first | omega | simp +decide only [encqb9]) only [encqb10, ↓brun_b, Nat.reduceBEq]
  refine Sem.draw' (by kernel_rfl) (.one 0 (.one 1 (.one 2 (.one 3 (.alt 4 (.one 5 (.one 6 (.one 7 (.one 8 (.one 10 (.alt 9 (.alt 11 (.one 12 (.one 13 .done)) .non) .non)))))) .non))))) [] (by kernel_rfl) (fun G ff hG hf => ?_)
  simp +decide only [encqb4] at hG ⊢
  simp -dsimp +decide (disch := first | omega | simp +decide only [encqb9]) only [encqb10, ↓brun_b, Nat.reduceBEq]
  refine hf _ (Sem.go (k := 1000) ?_)
  simp +decide only [back_mk, backL_row, backL_nil, Nat.zero_add]
  simp -dsimp +decide (disch := first | omega | simp +decide only [encqb9]) only [encqb10, ↓brun_b]
  refine SQ.answer (rs := [.tmp 2, .tmp 3]) rfl rfl ?_
  simp -dsimp +decide (disch := first | omega | simp +decide only [encqb9]) only [encqb11, ↓brun_b, Nat.reduceBEq, rho, bsl]
end Go.Proofs
namespace Go.Proofs
open Go Go.SL
set_option maxRecDepth 100000
set_option maxHeartbeats 8000000 in
theorem enc_1 (F : Frm) (hw : F.wf) (hk : F.kind = 1) (hr : rightB 1 F = true) (hs : frmEq (bare 1 F) F = true) : SCall Try.prog 114 [.agg F.fc.c] [] fun r L => r = .ret (.tup [.slc 0 0 (bytesB F).length, .v (.int .i64 0)]) ∧ L = [bytR (bytesB F)] := by
  have hft := fits_1 F hw hr
  simp only [fits] at hft
  have b_ltx : F.tx.length ≤ 140737488355328 := wfB hw
  have b_lval : F.val.length ≤ 140737488355328 := wfA hw
  have b_ltr : F.tr.length * 8 ≤ 140737488355328 := wfC hw
  have b_lis : F.is.length * 16 ≤ 140737488355328 := wfD hw
  have h1 : F.tr.length < 4611686018427387904 := wfE hw
  have h2 : F.is.length < 4611686018427387904 := wfG hw
  have hright := right_k1 F
  rw [hr] at hright
  have hsame := same143_calls (bare 1 F) F (by show 0 < 4611686018427387904; decide) (by show 0 < 4611686018427387904; decide) h1 h2
  rw [hs] at hsame
  refine enc_head F 214 _ (bodyF_1 F) (of_hello F hk) hright _ (plainB_1 F) hsame 1 (by decide) 191 meth214 cal.f191 (kind_k1 F) _ fun c hc A hA => ?_
  cases hc
  have hL0 := N_le 1 (by decide)
  rw [hA] at hL0
  refine goC ?_
  simp -dsimp +decide (disch := first | omega | simp +decide only [encqb6]) only [encqb7, ↓brun_b, Nat.reduceAdd, Nat.reduceBEq]
  have hk1 : (nB [F.fi, F.fn, F.ti, F.tn]).length ≤ 36 := by have := nB_len [F.fi, F.fn, F.ti, F.tn] (by intro n h; simp only [List.mem_cons, List.not_mem_nil, or_false] at h; omega); simpa using this
  have c1 := (num_lays [F.fi, F.fn, F.ti, F.tn] (by intro n h; simp only [List.mem_cons, List.not_mem_nil, or_false] at h; omega) (by show 4 < 4611686018427387904; decide)) A (by omega)
  have hL1 : (A ++ nB [F.fi, F.fn, F.ti, F.tn]).length = A.length + (nB [F.fi, F.fn, F.ti, F.tn]).length := List.length_append
  generalize hA1 : A ++ nB [F.fi, F.fn, F.ti, F.tn] = A1 at c1 hL1
  refine SemOps.frz (d := 62) (lrows [F.fi, F.fn, F.ti, F.tn]) rfl rfl rfl (by omega) (fun i r h => ent_icells h) ?_
  refine lcall 1 cal.f144 c1 rfl rfl rfl rfl (by simp only [bflat_a, lrows_flat]) rfl rfl rfl rfl ?_
  refine goK ?_
  simp -dsimp +decide (disch := first | omega | simp +decide only [encqb6]) only [encqb7, ↓brun_b, Nat.reduceAdd, Nat.reduceBEq, rho, ladR, bytR]
  have hk2 : (iB F.a).length ≤ 16 := by simp only [iB_length]; omega
  have c2 := (idLay1 F.a) A1 (by omega)
  have hL2 : (A1 ++ iB F.a).length = A1.length + (iB F.a).length := List.length_append
  generalize hA2 : A1 ++ iB F.a = A2 at c2 hL2
  refine SemOps.frz (d := 67) (idrs [F.a]) rfl rfl rfl (by omega) (fun i r h => ent_id1 h) ?_
  refine lcall 4 cal.f145 c2 rfl rfl rfl rfl (by simp only [bflat_a, idrs_flat]) rfl rfl rfl rfl ?_
  refine goK ?_
  simp -dsimp +decide (disch := first | omega | simp +decide only [encqb6]) only [encqb7, ↓brun_b, Nat.reduceAdd, Nat.reduceBEq, rho, ladR, bytR]
  have hE : bytesB F = A2 := by
    have hkk : F.k = 1 := by unfold Frm.k; rw [hk]; rfl
    have h0 : N 1 = form 1 := rfl
    unfold bytesB
    rw [hkk, ← hA2, ← hA1, ← hA, h0]
    simp only [bodyB, nB_cons, nB_nil, List.append_assoc, List.append_nil]
  rw [hE]
  refine SQ.runL (rs := [.tmp 2, .tmp 3]) [6] _ _ rfl (And.intro rfl rfl) (by decide) rfl rfl ?_ ?_
  · simp -dsimp +decide (disch := first | omega | simp +decide only [encqb6]) only [encqb8, Nat.reduceAdd]
  · simp -dsimp +decide (disch := first | omega | simp +decide only [encqb6]) only [encqb8, ↓brun_b, Nat.reduceAdd, Nat.reduceBEq]
end Go.Proofs
namespace Go.Proofs
open Go Go.SL
set_option maxRecDepth 100000
set_option maxHeartbeats 8000000 in
theorem enc_2 (F : Frm) (hw : F.wf) (hk : F.kind = 2) (hr : rightB 2 F = true) (hs : frmEq (bare 2 F) F = true) : SCall Try.prog 114 [.agg F.fc.c] [] fun r L => r = .ret (.tup [.slc 0 0 (bytesB F).length, .v (.int .i64 0)]) ∧ L = [bytR (bytesB F)] := by
  have hft := fits_2 F hw hr
  simp only [fits] at hft
  have b_ltx : F.tx.length ≤ 140737488355328 := wfB hw
  have b_lval : F.val.length ≤ 140737488355328 := wfA hw
  have b_ltr : F.tr.length * 8 ≤ 140737488355328 := wfC hw
  have b_lis : F.is.length * 16 ≤ 140737488355328 := wfD hw
  have h1 : F.tr.length < 4611686018427387904 := wfE hw
  have h2 : F.is.length < 4611686018427387904 := wfG hw
  have hright := right_k2 F
  rw [hr] at hright
  have hsame := same143_calls (bare 2 F) F (by show 0 < 4611686018427387904; decide) (by show 0 < 4611686018427387904; decide) h1 h2
  rw [hs] at hsame
  refine enc_head F 210 _ (bodyF_2 F) (of_data F hk b_ltx) hright _ (plainB_2 F b_ltx) hsame 2 (by decide) 190 meth210 cal.f190 (kind_k2 F) _ fun c hc A hA => ?_
  cases hc
  have hL0 := N_le 2 (by decide)
  rw [hA] at hL0
  refine goC ?_
  simp -dsimp +decide (disch := first | omega | simp +decide only [encqb6]) only [encqb7, ↓brun_b, Nat.reduceAdd, Nat.reduceBEq, fun v => miss214 210 v (by decide)]
  have hk1 : (nB [F.fi, F.fn, F.ti, F.tn, F.n]).length ≤ 45 := by have := nB_len [F.fi, F.fn, F.ti, F.tn, F.n] (by intro n h; simp only [List.mem_cons, List.not_mem_nil, or_false] at h; omega); simpa using this
  have c1 := (num_lays [F.fi, F.fn, F.ti, F.tn, F.n] (by intro n h; simp only [List.mem_cons, List.not_mem_nil, or_false] at h; omega) (by show 5 < 4611686018427387904; decide)) A (by omega)
  have hL1 : (A ++ nB [F.fi, F.fn, F.ti, F.tn, F.n]).length = A.length + (nB [F.fi, F.fn, F.ti, F.tn, F.n]).length := List.length_append
  generalize hA1 : A ++ nB [F.fi, F.fn, F.ti, F.tn, F.n] = A1 at c1 hL1
  refine SemOps.frz (d := 87) (lrows [F.fi, F.fn, F.ti, F.tn, F.n]) rfl rfl rfl (by omega) (fun i r h => ent_icells h) ?_
  refine lcall 1 cal.f144 c1 rfl rfl rfl rfl (by simp only [bflat_a, lrows_flat]) rfl rfl rfl rfl ?_
  refine goK ?_
  simp -dsimp +decide (disch := first | omega | simp +decide only [encqb6]) only [encqb7, Nat.reduceAdd, rho, ladR, bytR]
  have hk2 : (txB F.tx).length ≤ 5000 := by have := form_le F.tx.length (by omega); simp only [List.length_append, txB]; omega
  have ct := putText1 F.tx (by omega)
  have hLt : (A1 ++ txB F.tx).length = A1.length + (txB F.tx).length := List.length_append
  have hE : bytesB F = A1 ++ txB F.tx := by
    have hkk : F.k = 2 := by unfold Frm.k; rw [hk]; rfl
    have h0 : N 2 = form 2 := rfl
    unfold bytesB
    rw [hkk, ← hA1, ← hA, h0]
    simp only [bodyB, nB_cons, nB_nil, List.append_assoc, List.append_nil]
  rw [hE]
  refine Sem.draw' (by kernel_rfl) (.one 0 (.one 1 (.one 2 (.one 3 (.one 5 (.one 6 (.alt 4 (.alt 7 (.alt 8 (.alt 9 (.one 10 (.one 11 (.alt 12 .done .non))) .non) .non) .non) (.alt 7 (.alt 4 (.alt 8 (.alt 9 (.one 10 (.one 11 (.alt 12 .done .non))) .non) .non) (.alt 8 (.alt 4 (.alt 9 (.one 10 (.one 11 (.alt 12 .done .non))) .non) .non) .non)) .non)))))))) [0, 4] (by kernel_rfl) (fun G ff hG hf => ?_)
  simp +decide only [encqb4, Nat.reduceAdd] at hG ⊢
  simp -dsimp +decide (disch := first | omega | simp +decide only [encqb6]) only [encqb7, ↓brun_b, Nat.reduceAdd, Nat.reduceBEq, hG]
  (repeat' refine And.intro ?_ ?_)
  all_goals
    refine OpSem.frz (d := 96) (trows [F.tx]) rfl rfl rfl (by omega) (fun i r h => trow_one h) ?_
    refine OpSem.callq cal.f47 (ct) rfl rfl rfl (by simp only [bflat_a, trows_flat]) (by simp only [bflat_a]) (dK rfl) ?_
    simp -dsimp +decide (disch := first | omega | simp +decide only [encqb6]) only [encqb7, ↓brun_b, Nat.reduceAdd, Nat.reduceBEq, sapp1_sl el5]
    (repeat' refine And.intro ?_ ?_)
    all_goals first | omega | skip
    all_goals
      refine hf _ (Sem.go (k := 1000) ?_)
      simp +decide only [back_mk, backL_in, backL_row, backL_none, backL_nil, Nat.zero_add, Nat.reduceAdd]
      simp -dsimp +decide (disch := first | omega | simp +decide only [encqb6]) only [encqb7, ↓brun_b, Nat.reduceAdd, Nat.reduceBEq]
      refine SQ.runL (rs := [.tmp 2, .tmp 3]) [6] _ _ rfl (And.intro rfl rfl) (by decide) rfl rfl ?_ ?_
      · simp -dsimp +decide (disch := first | omega | simp +decide only [encqb6]) only [encqb8, Nat.reduceAdd, hLt]
        intro e he
        rw [brow_app2r _ _ _ he]
        exact EntL.self rfl
      · simp -dsimp +decide (disch := first | omega | simp +decide only [encqb6]) only [encqb8, ↓brun_b, Nat.reduceAdd, Nat.reduceBEq, hLt]
end Go.Proofs
namespace Go.Proofs
open Go Go.SL
set_option maxRecDepth 100000
set_option maxHeartbeats 8000000 in
theorem enc_3 (F : Frm) (hw : F.wf) (hk : F.kind = 3) (hr : rightB 3 F = true) (hs : frmEq (bare 3 F) F = true) : SCall Try.prog 114 [.agg F.fc.c] [] fun r L => r = .ret (.tup [.slc 0 0 (bytesB F).length, .v (.int .i64 0)]) ∧ L = [bytR (bytesB F)] := by
  have hft := fits_3 F hw hr
  simp only [fits] at hft
  have b_ltx : F.tx.length ≤ 140737488355328 := wfB hw
  have b_lval : F.val.length ≤ 140737488355328 := wfA hw
  have b_ltr : F.tr.length * 8 ≤ 140737488355328 := wfC hw
  have b_lis : F.is.length * 16 ≤ 140737488355328 := wfD hw
  have h1 : F.tr.length < 4611686018427387904 := wfE hw
  have h2 : F.is.length < 4611686018427387904 := wfG hw
  have hright := right_k3 F
  rw [hr] at hright
  have hsame := same143_calls (bare 3 F) F (by show 0 < 4611686018427387904; decide) (by show 0 < 4611686018427387904; decide) h1 h2
  rw [hs] at hsame
  refine enc_head F 218 _ (bodyF_3 F) (of_ack F hk) hright _ (plainB_3 F) hsame 3 (by decide) 192 meth218 cal.f192 (kind_k3 F) _ fun c hc A hA => ?_
  cases hc
  have hL0 := N_le 3 (by decide)
  rw [hA] at hL0
  refine goC ?_
  simp -dsimp +decide (disch := first | omega | simp +decide only [encqb6]) only [encqb7, ↓brun_b, Nat.reduceAdd, Nat.reduceBEq, fun v => miss214 218 v (by decide), fun v => miss210 218 v (by decide)]
  have hk1 : (nB [F.fi, F.fn, F.ti, F.tn, F.n]).length ≤ 45 := by have := nB_len [F.fi, F.fn, F.ti, F.tn, F.n] (by intro n h; simp only [List.mem_cons, List.not_mem_nil, or_false] at h; omega); simpa using this
  have c1 := (num_lays [F.fi, F.fn, F.ti, F.tn, F.n] (by intro n h; simp only [List.mem_cons, List.not_mem_nil, or_false] at h; omega) (by show 5 < 4611686018427387904; decide)) A (by omega)
  have hL1 : (A ++ nB [F.fi, F.fn, F.ti, F.tn, F.n]).length = A.length + (nB [F.fi, F.fn, F.ti, F.tn, F.n]).length := List.length_append
  generalize hA1 : A ++ nB [F.fi, F.fn, F.ti, F.tn, F.n] = A1 at c1 hL1
  refine SemOps.frz (d := 119) (lrows [F.fi, F.fn, F.ti, F.tn, F.n]) rfl rfl rfl (by omega) (fun i r h => ent_icells h) ?_
  refine lcall 1 cal.f144 c1 rfl rfl rfl rfl (by simp only [bflat_a, lrows_flat]) rfl rfl rfl rfl ?_
  refine goK ?_
  simp -dsimp +decide (disch := first | omega | simp +decide only [encqb6]) only [encqb7, ↓brun_b, Nat.reduceAdd, Nat.reduceBEq, rho, ladR, bytR]
  have hE : bytesB F = A1 := by
    have hkk : F.k = 3 := by unfold Frm.k; rw [hk]; rfl
    have h0 : N 3 = form 3 := rfl
    unfold bytesB
    rw [hkk, ← hA1, ← hA, h0]
    simp only [bodyB, nB_cons, nB_nil, List.append_assoc, List.append_nil]
  rw [hE]
  refine SQ.runL (rs := [.tmp 2, .tmp 3]) [4] _ _ rfl (And.intro rfl rfl) (by decide) rfl rfl ?_ ?_
  · simp -dsimp +decide (disch := first | omega | simp +decide only [encqb6]) only [encqb8, Nat.reduceAdd]
  · simp -dsimp +decide (disch := first | omega | simp +decide only [encqb6]) only [encqb8, ↓brun_b, Nat.reduceAdd, Nat.reduceBEq]
end Go.Proofs
namespace Go.Proofs
open Go Go.SL
set_option maxRecDepth 100000
set_option maxHeartbeats 8000000 in
theorem enc_4 (F : Frm) (hw : F.wf) (hk : F.kind = 4) (hr : rightB 4 F = true) (hs : frmEq (bare 4 F) F = true) : SCall Try.prog 114 [.agg F.fc.c] [] fun r L => r = .ret (.tup [.slc 0 0 (bytesB F).length, .v (.int .i64 0)]) ∧ L = [bytR (bytesB F)] := by
  have hft := fits_4 F hw hr
  simp only [fits] at hft
  have b_ltx : F.tx.length ≤ 140737488355328 := wfB hw
  have b_lval : F.val.length ≤ 140737488355328 := wfA hw
  have b_ltr : F.tr.length * 8 ≤ 140737488355328 := wfC hw
  have b_lis : F.is.length * 16 ≤ 140737488355328 := wfD hw
  have h1 : F.tr.length < 4611686018427387904 := wfE hw
  have h2 : F.is.length < 4611686018427387904 := wfG hw
  have hright := right_k4 F h1
  rw [hr] at hright
  have hsame := same143_calls (bare 4 F) F h1 (by show 0 < 4611686018427387904; decide) h1 h2
  rw [hs] at hsame
  refine enc_head F 226 _ (bodyF_4 F) (of_k4 F hk b_ltr) hright _ (plainB_4 F b_ltr) hsame 4 (by decide) 193 meth226 cal.f193 (kind_k4 F) _ fun c hc A hA => ?_
  cases hc
  have hL0 := N_le 4 (by decide)
  rw [hA] at hL0
  refine goC ?_
  simp -dsimp +decide (disch := first | omega | simp +decide only [encqb6]) only [encqb7, ↓brun_b, Nat.reduceAdd, Nat.reduceBEq, fun v => miss214 226 v (by decide), fun v => miss210 226 v (by decide), fun v => miss218 226 v (by decide)]
  have hk1 : (iB F.who ++ N F.pn).length ≤ 25 := by have := N_le F.pn (by omega); simp only [List.length_append, iB_length]; omega
  have c1 := (path_lays F.who F.pn (by omega)) A (by omega)
  have hL1 : (A ++ (iB F.who ++ N F.pn)).length = A.length + ((iB F.who ++ N F.pn)).length := List.length_append
  generalize hA1 : A ++ (iB F.who ++ N F.pn) = A1 at c1 hL1
  refine lcall 1 cal.f146 c1 rfl rfl rfl rfl (by simp only [bflat_a, p144_flat]) rfl rfl rfl rfl ?_
  refine goK ?_
  simp -dsimp +decide (disch := first | omega | simp +decide only [encqb6]) only [encqb7, ↓brun_b, Nat.reduceAdd, Nat.reduceBEq, rho, ladR, bytR]
  have hk2 : ((iB F.a ++ iB F.b)).length ≤ 32 := by simp only [List.length_append, iB_length]; omega
  have c2 := (idLay2 F.a F.b) A1 (by omega)
  have hL2 : (A1 ++ (iB F.a ++ iB F.b)).length = A1.length + ((iB F.a ++ iB F.b)).length := List.length_append
  generalize hA2 : A1 ++ (iB F.a ++ iB F.b) = A2 at c2 hL2
  refine SemOps.frz (d := 133) (idrs [F.a, F.b]) rfl rfl rfl (by omega) (fun i r h => ent_id2 h) ?_
  refine lcall 3 cal.f145 c2 rfl rfl rfl rfl (by simp only [bflat_a, idrs_flat]) rfl rfl rfl rfl ?_
  refine goK ?_
  simp -dsimp +decide (disch := first | omega | simp +decide only [encqb6]) only [encqb7, ↓brun_b, Nat.reduceAdd, Nat.reduceBEq, rho, ladR, bytR]
  have htr : ∀ v ∈ F.tr, 0 ≤ v ∧ v < 6 := hft.2.2
  have hk3 : (form F.tr.length ++ legB F.tr).length ≤ 600 := by have := legB_len F.tr (fun v hv => by have := htr v hv; omega); have := form_le F.tr.length (by omega); simp only [List.length_append]; omega
  have c3 := (trail_lays F.tr (fun v hv => by have := hw.tr v hv; have := htr v hv; unfold I64 at *; omega) h1) A2 (by omega)
  have hL3 : (A2 ++ (form F.tr.length ++ legB F.tr)).length = A2.length + ((form F.tr.length ++ legB F.tr)).length := List.length_append
  generalize hA3 : A2 ++ (form F.tr.length ++ legB F.tr) = A3 at c3 hL3
  refine lcall 5 cal.f147 c3 rfl rfl rfl rfl (by simp only [bflat_a, lrows_flat]) rfl rfl rfl rfl ?_
  refine goK ?_
  simp -dsimp +decide (disch := first | omega | simp +decide only [encqb6]) only [encqb7, ↓brun_b, Nat.reduceAdd, Nat.reduceBEq, rho, ladR, bytR]
  have hE : bytesB F = A3 := by
    have hkk : F.k = 4 := by unfold Frm.k; rw [hk]; rfl
    have h0 : N 4 = form 4 := rfl
    unfold bytesB
    rw [hkk, ← hA3, ← hA2, ← hA1, ← hA, h0]
    simp only [bodyB, List.append_assoc]
  rw [hE]
  refine SQ.runL (rs := [.tmp 2, .tmp 3]) [6] _ _ rfl (And.intro rfl rfl) (by decide) rfl rfl ?_ ?_
  · simp -dsimp +decide (disch := first | omega | simp +decide only [encqb6]) only [encqb8, Nat.reduceAdd]
  · simp -dsimp +decide (disch := first | omega | simp +decide only [encqb6]) only [encqb8, ↓brun_b, Nat.reduceAdd, Nat.reduceBEq]
end Go.Proofs
namespace Go.Proofs
open Go Go.SL
set_option maxRecDepth 100000
set_option maxHeartbeats 8000000 in
theorem enc_6 (F : Frm) (hw : F.wf) (hk : F.kind = 6) (hr : rightB 6 F = true) (hs : frmEq (bare 6 F) F = true) : SCall Try.prog 114 [.agg F.fc.c] [] fun r L => r = .ret (.tup [.slc 0 0 (bytesB F).length, .v (.int .i64 0)]) ∧ L = [bytR (bytesB F)] := by
  have hft := fits_6 F hw hr
  simp only [fits] at hft
  have b_ltx : F.tx.length ≤ 140737488355328 := wfB hw
  have b_lval : F.val.length ≤ 140737488355328 := wfA hw
  have b_ltr : F.tr.length * 8 ≤ 140737488355328 := wfC hw
  have b_lis : F.is.length * 16 ≤ 140737488355328 := wfD hw
  have h1 : F.tr.length < 4611686018427387904 := wfE hw
  have h2 : F.is.length < 4611686018427387904 := wfG hw
  have hright := right_k6 F
  rw [hr] at hright
  have hsame := same143_calls (bare 6 F) F (by show 0 < 4611686018427387904; decide) (by show 0 < 4611686018427387904; decide) h1 h2
  rw [hs] at hsame
  refine enc_head F 232 _ (bodyF_6 F) (of_k6 F hk) hright _ (plainB_6 F) hsame 6 (by decide) 195 meth232 cal.f195 (kind_k6 F) _ fun c hc A hA => ?_
  cases hc
  have hL0 := N_le 6 (by decide)
  rw [hA] at hL0
  refine goC ?_
  simp -dsimp +decide (disch := first | omega | simp +decide only [encqb6]) only [encqb7, ↓brun_b, Nat.reduceAdd, Nat.reduceBEq, fun v => miss214 232 v (by decide), fun v => miss210 232 v (by decide), fun v => miss218 232 v (by decide), fun v => miss226 232 v (by decide), fun v => miss230 232 v (by decide)]
  have hk1 : (iB F.who ++ N F.pn).length ≤ 25 := by have := N_le F.pn (by omega); simp only [List.length_append, iB_length]; omega
  have c1 := (path_lays F.who F.pn (by omega)) A (by omega)
  have hL1 : (A ++ (iB F.who ++ N F.pn)).length = A.length + ((iB F.who ++ N F.pn)).length := List.length_append
  generalize hA1 : A ++ (iB F.who ++ N F.pn) = A1 at c1 hL1
  refine lcall 1 cal.f146 c1 rfl rfl rfl rfl (by simp only [bflat_a, p144_flat]) rfl rfl rfl rfl ?_
  refine goK ?_
  simp -dsimp +decide (disch := first | omega | simp +decide only [encqb6]) only [encqb7, ↓brun_b, Nat.reduceAdd, Nat.reduceBEq, rho, ladR, bytR]
  have hk2 : (flB F.toA).length ≤ 9 := by cases F.toA <;> decide
  have c2 := (flag_lays F.toA) A1 (by omega)
  have hL2 : (A1 ++ flB F.toA).length = A1.length + (flB F.toA).length := List.length_append
  generalize hA2 : A1 ++ flB F.toA = A2 at c2 hL2
  refine lcall 3 cal.f148 c2 rfl rfl rfl rfl (by simp only [bflat_a]) rfl rfl rfl rfl ?_
  refine goK ?_
  simp -dsimp +decide (disch := first | omega | simp +decide only [encqb6]) only [encqb7, ↓brun_b, Nat.reduceAdd, Nat.reduceBEq, rho, ladR, bytR]
  have hE : bytesB F = A2 := by
    have hkk : F.k = 6 := by unfold Frm.k; rw [hk]; rfl
    have h0 : N 6 = form 6 := rfl
    unfold bytesB
    rw [hkk, ← hA2, ← hA1, ← hA, h0]
    simp only [bodyB, List.append_assoc]
  rw [hE]
  refine SQ.runL (rs := [.tmp 2, .tmp 3]) [4] _ _ rfl (And.intro rfl rfl) (by decide) rfl rfl ?_ ?_
  · simp -dsimp +decide (disch := first | omega | simp +decide only [encqb6]) only [encqb8, Nat.reduceAdd]
  · simp -dsimp +decide (disch := first | omega | simp +decide only [encqb6]) only [encqb8, ↓brun_b, Nat.reduceAdd, Nat.reduceBEq]
end Go.Proofs
