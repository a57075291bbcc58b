/- Contracts of functions that the laws reach, on abstract values, and what they need: no conditions but those that each theorem states. -/
import Derived.Test.YtheodenjjaoncaaBodP
set_option linter.unusedVariables false
set_option linter.unusedSimpArgs false
set_option linter.defProp false
namespace Go.Proofs
open Go Go.SL
set_option maxRecDepth 100000
end Go.Proofs
namespace Go.Proofs
open Go Go.SL
set_option maxRecDepth 100000
end Go.Proofs
namespace Go.Proofs
open Go Go.SL
set_option maxRecDepth 100000
end Go.Proofs
namespace Go.Proofs
open Go Go.SL
set_option maxRecDepth 100000
end Go.Proofs
namespace Go.Proofs
open Go Go.SL
set_option maxRecDepth 100000
end Go.Proofs
namespace Go.SL
open Go
end Go.SL
namespace Go.Proofs
open Go Go.SL
set_option maxRecDepth 100000
end Go.Proofs
namespace Go.Proofs
open Go Go.SL
set_option maxRecDepth 100000
end Go.Proofs
namespace Go.SL
open Go
def frows (Fs : List Frm) : List (List SV) := Fs.map fun F => F.fc.c
end Go.SL
namespace Go.Proofs
open Go Go.SL
set_option maxRecDepth 100000
theorem Frm.flat (F : Frm) : SV.flatL F.fc.c = true := frm_flat _ _ _ _ _ _ _ _ _ _ _ _ _ _ _ _ _ _ _ _
theorem bs145_0 (N : Nat) : sBuildSlice Try.prog N 145 0 [] = some ⟨.slc N 0 0, ⟨none, some (.row ⟨1, 0, true, 3, fun e => (([] : List SV).drop (e * 1)).take 1⟩)⟩, True⟩ := by kernel_rfl
theorem bs79_0 (N : Nat) : sBuildSlice Try.prog N 79 0 [] = some ⟨.slc N 0 0, ⟨none, some (.row ⟨16, 0, true, 23, fun e => (([] : List SV).drop (e * 16)).take 16⟩)⟩, True⟩ := by kernel_rfl
theorem app_row2 {fz : Nat → Option SB} {ρ : Nat → Nat} (rows : List (List SV)) (hf : SV.flatR rows = true) (x : List SV) (i : Nat) (r : List SV) (h : rows[i]? = some r) : EntL fz ρ r (if 0 + i < 0 then x else rows.getD (0 + i - 0) []) := by
  have e : (if 0 + i < 0 then x else rows.getD (0 + i - 0) []) = r := by
    simp [List.getD_eq_getElem?_getD, h]
  rw [e]
  exact EntL.self (flatR_getD rows i r hf h)
def hels2b0 :=
  (aI (aI (aI (aI @FC.c_length @FC.flat_eq) (aI @FC.one_eq (aI @H1.c_length @H1.flat))) (aI (aI @H1.one @bdset_a) (aI @frm_flat (aI @idrs_flat @idrs_len)))) (aI (aI (aI @lrows_flat @lrows_length) (aI @trow_len (aI @trows_flat @trows_length))) (aI (aI @zD.eq_1 @zE.eq_1) (aI @zF.eq_1 (aI @zH.eq_1 @zK.eq_1)))))
def hels2c0 :=
  (aI (aI (aI (aI (aI (aI @EC.at_op @EC.ent) (aI @EC.set_op @FC.at_is)) (aI (aI @FC.at_tr @FC.at_tx) (aI @FC.at_val @FC.part))) (aI (aI (aI @FC.set_all @H1.part) (aI @H1.set_all @Int.cast_ofNat_Int)) (aI (aI @List.replicate_succ.{0} @List.replicate_zero.{0}) (aI @SKren_row @after_mk)))) (aI (aI (aI (aI @al151 @al210) (aI @al214 @al218)) (aI (aI @beq_self_eq_true.{0} @brun_a) (aI @build151z @cellAt_succ))) (aI (aI (aI @cellAt_zero @cond_false.{1}) (aI @cond_true.{1} @mergeL_done)) (aI (aI @mergeL_own @mergeL_row) (aI @mk210 @renL_cons))))) (aI (aI (aI (aI (aI @renL_flat @renL_nil) (aI @ren_tup @sop_assert)) (aI (aI @sp02 @sp22) (aI @splice_0 @splice_c))) (aI (aI (aI @splice_s @tab.a135) (aI @tab.a145 @tab.a151)) (aI (aI @tab.a2 @tab.a35) (aI @tab.a4 @tab.a79)))) (aI (aI (aI (aI @tab.f149x2 @tab.f151x10) (aI @tab.f151x13 @tab.f151x8)) (aI (aI @tab.f151x9 @tab.s135) (aI @tab.s145 @tab.s151))) (aI (aI (aI @tab.s2 @tab.s35) (aI @tab.s4 @tab.s79)) (aI (aI @tab.u145 @tab.u35) (aI @tab.u79 @trow_cell))))))
def hels2b1 :=
  (aI (aI (aI hels2c0 (aI @FC.c_length @FC.set_is)) (aI @FC.set_tr (aI @FC.set_tx @FC.set_val))) (aI (aI @H1.c_length (aI @bs145_0 @bs35_0)) (aI (aI @bs79_0 @idrs_len) (aI @lrows_length @trow_len))))
def hels2b2 :=
  (aI (aI (aI hels2c0 @FC.c_length) (aI @FC.ent (aI @H1.c_length @bwk_a))) (aI (aI @eq_self.{1} @forall_const.{1}) (aI @implies_true.{0} (aI @implies_true.{1} @trow_len))))
theorem copyF_calls (F : Frm) (h8 : F.tr.length * 8 ≤ 140737488355328) (h9 : F.is.length * 16 ≤ 140737488355328) (h10 : F.tx.length ≤ 140737488355328) (h11 : F.val.length ≤ 140737488355328) : Pure Try.prog 107 [.agg F.fc.c] (.agg F.fc.c) := by
  refine SCall.mk (fn := Try.f107) (by kernel_rfl) rfl (Nat.le_of_ble_eq_true (by kernel_rfl)) ?_
  refine Sem.go (k := 1000) ?_
  simp -dsimp (decide := true) (disch := first | omega | simp (decide := true) only [hels2b0]) only [hels2b1, ↓brun_b, envOf, Nat.reduceAdd, Nat.reduceBEq, Frm.fc, sapp1_sl el5, sapp1_sl elN3, sapp1_sl elN23, h8, h9, h10, h11]
  refine SQ.answer (rs := [.cell 2 151]) rfl rfl ?_
  simp -dsimp (decide := true) (disch := first | omega | simp (decide := true) only [hels2b0]) only [hels2b2, ↓brun_b, reduceIte, Nat.reduceAdd, Nat.reduceBEq, rho, ↓reduceIte]
  exact ⟨Ent_row rfl rfl (lrows_length _).symm (by omega) fun i r hr => app_row2 _ (lrows_flat _) [] i r hr, Ent_row rfl rfl (idrs_len _).symm (by omega) fun i r hr => app_row2 _ (idrs_flat _) [] i r hr, Ent_row rfl rfl (brows_length _).symm (by omega) fun i r hr => app_row2 _ (flatR_brows _) [] i r hr, Ent_row rfl rfl (brows_length _).symm (by omega) fun i r hr => app_row2 _ (flatR_brows _) [] i r hr⟩
end Go.Proofs
