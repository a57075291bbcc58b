/- Contracts of functions that the laws reach, on abstract values, and what they need: no conditions but those that each theorem states. -/
import Derived.Test.YtheodenjjaoncaaSlY
import Derived.Test.YtheodenjjaoncaaBodP
import Derived.Test.YtheodenjjaoncaaFcP
import Derived.Test.YtheodenjjaoncaaDecP1
import Derived.Test.YtheodenjjaoncaaHelP
import Derived.Test.YtheodenjjaoncaaDecP2
set_option linter.unusedVariables false
set_option linter.unusedSimpArgs false
set_option linter.defProp false
namespace Go.Proofs
open Go Go.SL
set_option maxRecDepth 100000
theorem isl_flat (t : List I16) : (SV.rsl 16 (idrs t)).flat = true := by simp only [flat_rsl, idrs_flat]
theorem meth214 : Meth Try.prog 214 "Kind" 191 := fun v w => by kernel_rfl
def kinpc0 :=
  (aI (aI (aI @AD.c_length @AK.c_length) (aI @CP.c_length @DR.c_length)) (aI (aI @GT.c_length @PE.c_length) (aI @PK.c_length (aI @PT.c_length @SU.c_length))))
def kinpc1 :=
  (aI (aI (aI @AD.flat @AK.flat) (aI @CP.flat (aI @DR.flat @GT.flat))) (aI (aI @PE.flat @PK.flat) (aI @PT.flat (aI @SU.flat @bsl_flat))))
def kinpc2 :=
  (aI (aI (aI @FC.flat_eq @FC.one_eq) (aI @H1.one @bdset_a)) (aI (aI @zD.eq_1 @zE.eq_1) (aI @zF.eq_1 (aI @zH.eq_1 @zK.eq_1))))
def kinpb0 :=
  (aI (aI (aI (aI kinpc0 kinpc1) (aI kinpc2 (aI @AD.one @AK.one))) (aI (aI @CP.one @DR.one) (aI @FC.c_length (aI @GT.one @H1.c_length)))) (aI (aI (aI @H1.flat @I16.c_length) (aI @PE.one (aI @PK.one @PT.one))) (aI (aI @SU.one (aI @idrs_flat @idrs_len)) (aI @lrow_len (aI @lrows_flat @lrows_length)))))
def kinpc3 :=
  (aI (aI (aI (aI @I16.part @Int.cast_ofNat_Int) (aI @List.replicate_succ.{0} @List.replicate_zero.{0})) (aI (aI @SKren_row @after_mk) (aI @beq_self_eq_true.{0} @brun_a))) (aI (aI (aI @cellAt_succ @cellAt_zero) (aI @cond_false.{1} @cond_true.{1})) (aI (aI @renL_cons @renL_nil) (aI @ren_tup (aI @tab.a2 @tab.s2)))))
def kinpb1 :=
  (aI (aI (aI kinpc0 kinpc3) (aI @FC.c_length (aI @FC.ent @H1.c_length))) (aI (aI @I16.c_length (aI @tab.a135 @tab.a23)) (aI @tab.s135 (aI @tab.s23 @tab.u5))))
def kinpb2 :=
  (aI (aI (aI kinpc3 (aI @FC.c_length @H1.c_length)) (aI (aI @I16.c_length @bwk_a) (aI @eq_self.{1} @forall_const.{1}))) (aI (aI @implies_true.{0} (aI @implies_true.{1} @tab.a135)) (aI (aI @tab.a23 @tab.s135) (aI @tab.s23 @tab.u5))))
theorem kind_k1 (F : Frm) : Pure Try.prog 191 [.agg (H1.c ⟨.v (.int .i64 F.fi), .v (.int .i64 F.fn), .v (.int .i64 F.ti), .v (.int .i64 F.tn), F.a⟩)] (.v (.int .i64 1)) := by
  refine SCall.mk (fn := Try.f191) (by kernel_rfl) rfl (Nat.le_of_ble_eq_true (by kernel_rfl)) ?_
  refine goC ?_
  simp -dsimp +decide (disch := first | omega | simp +decide only [kinpb0]) only [kinpb1, ↓brun_b, envOf]
  refine SQ.answer (rs := [.tmp 2]) rfl rfl ?_
  simp -dsimp +decide (disch := first | omega | simp +decide only [kinpb0]) only [kinpb2, ↓brun_b, rho]
def kinpb3 :=
  (aI (aI (aI kinpc1 @H1.flat) (aI @flatL_cons (aI @flatL_nil @flatR_brows))) (aI (aI @flat_agg @flat_rsl) (aI @flat_v (aI @idrs_flat @lrows_flat))))
theorem bodyF_1 (F : Frm) : (SV.agg (H1.c ⟨.v (.int .i64 F.fi), .v (.int .i64 F.fn), .v (.int .i64 F.ti), .v (.int .i64 F.tn), F.a⟩)).flat = true := by
  simp +decide only [kinpb3, Bool.and_self]
theorem bare_ent1 {fz : Nat → Option SB} {ρ : Nat → Nat} (F : Frm) : EntL fz ρ (bare 1 F).fc.c (FC.c { zF with kind := .v (.int .i64 1), fi := .v (.int .i64 F.fi), fn := .v (.int .i64 F.fn), ti := .v (.int .i64 F.ti), tn := .v (.int .i64 F.tn), a := F.a }) := by
  have e : bare 1 F = { kF 1 with fi := F.fi, fn := F.fn, ti := F.ti, tn := F.tn, a := F.a } := rfl
  rw [e]
  unfold kF zFrm Frm.fc zF
  rw [FC.ent]
  (repeat' apply And.intro) <;> first | exact Ent.self (flat_v _) | exact ent_nil _ | exact Ent.self (bsl_flat _) | exact Ent.self (lsl_flat _) | exact Ent.self (isl_flat _)
theorem plainB_1 (F : Frm) : Pure Try.prog 123 [.ifc 214 (.agg (H1.c ⟨.v (.int .i64 F.fi), .v (.int .i64 F.fn), .v (.int .i64 F.ti), .v (.int .i64 F.tn), F.a⟩))] (.agg (bare 1 F).fc.c) :=
  SCall.tell [] (plainH_calls F.fi F.fn F.ti F.tn F.a) ⟨rfl, rfl, rfl, rfl, rfl, rfl, ⟨⟨_, rfl, bare_ent1 F⟩, trivial⟩, trivial⟩
theorem meth210 : Meth Try.prog 210 "Kind" 190 := fun v w => by kernel_rfl
def kinpb4 :=
  (aI (aI (aI kinpc0 (aI kinpc3 @FC.c_length)) (aI @FC.ent (aI @H1.c_length @I16.c_length))) (aI (aI @tab.a135 (aI @tab.a35 @tab.s135)) (aI @tab.s35 (aI @tab.u35 @tab.u5))))
def kinpb5 :=
  (aI (aI (aI kinpc3 (aI @FC.c_length @H1.c_length)) (aI (aI @I16.c_length @bwk_a) (aI @eq_self.{1} @forall_const.{1}))) (aI (aI (aI @implies_true.{0} @implies_true.{1}) (aI @tab.a135 @tab.a35)) (aI (aI @tab.s135 @tab.s35) (aI @tab.u35 @tab.u5))))
theorem kind_k2 (F : Frm) : Pure Try.prog 190 [.agg ([.v (.int .i64 F.fi), .v (.int .i64 F.fn), .v (.int .i64 F.ti), .v (.int .i64 F.tn), .v (.int .i64 F.n), bsl F.tx])] (.v (.int .i64 2)) := by
  refine SCall.mk (fn := Try.f190) (by kernel_rfl) rfl (Nat.le_of_ble_eq_true (by kernel_rfl)) ?_
  refine goC ?_
  simp -dsimp +decide (disch := first | omega | simp +decide only [kinpb0]) only [kinpb4, ↓brun_b, envOf, Nat.reduceAdd]
  refine SQ.answer (rs := [.tmp 2]) rfl rfl ?_
  simp -dsimp +decide (disch := first | omega | simp +decide only [kinpb0]) only [kinpb5, ↓brun_b, rho]
theorem bodyF_2 (F : Frm) : (SV.agg ([.v (.int .i64 F.fi), .v (.int .i64 F.fn), .v (.int .i64 F.ti), .v (.int .i64 F.tn), .v (.int .i64 F.n), bsl F.tx])).flat = true := by
  simp +decide only [kinpb3, Bool.and_self]
theorem bare_ent2 {fz : Nat → Option SB} {ρ : Nat → Nat} (F : Frm) : EntL fz ρ (bare 2 F).fc.c (FC.c { zF with kind := .v (.int .i64 2), fi := .v (.int .i64 F.fi), fn := .v (.int .i64 F.fn), ti := .v (.int .i64 F.ti), tn := .v (.int .i64 F.tn), n := .v (.int .i64 F.n), tx := bsl F.tx }) := by
  have e : bare 2 F = { kF 2 with fi := F.fi, fn := F.fn, ti := F.ti, tn := F.tn, n := F.n, tx := F.tx } := rfl
  rw [e]
  unfold kF zFrm Frm.fc zF
  rw [FC.ent]
  (repeat' apply And.intro) <;> first | exact Ent.self (flat_v _) | exact ent_nil _ | exact Ent.self (bsl_flat _) | exact Ent.self (lsl_flat _) | exact Ent.self (isl_flat _)
theorem plainB_2 (F : Frm) (h1 : F.tx.length ≤ 140737488355328) : Pure Try.prog 123 [.ifc 210 (.agg ([.v (.int .i64 F.fi), .v (.int .i64 F.fn), .v (.int .i64 F.ti), .v (.int .i64 F.tn), .v (.int .i64 F.n), bsl F.tx]))] (.agg (bare 2 F).fc.c) :=
  SCall.tell [] (plain_k2 F.fi F.fn F.ti F.tn F.n F.tx h1) ⟨rfl, rfl, rfl, rfl, rfl, rfl, ⟨⟨_, rfl, bare_ent2 F⟩, trivial⟩, trivial⟩
theorem meth218 : Meth Try.prog 218 "Kind" 192 := fun v w => by kernel_rfl
def kinpb6 :=
  (aI (aI (aI kinpc0 kinpc3) (aI @FC.c_length @FC.ent)) (aI (aI @H1.c_length @I16.c_length) (aI @tab.a135 @tab.s135)))
def kinpb7 :=
  (aI (aI (aI kinpc3 @FC.c_length) (aI @H1.c_length (aI @I16.c_length @bwk_a))) (aI (aI @eq_self.{1} (aI @forall_const.{1} @implies_true.{0})) (aI @implies_true.{1} (aI @tab.a135 @tab.s135))))
theorem kind_k3 (F : Frm) : Pure Try.prog 192 [.agg ([.v (.int .i64 F.fi), .v (.int .i64 F.fn), .v (.int .i64 F.ti), .v (.int .i64 F.tn), .v (.int .i64 F.n)])] (.v (.int .i64 3)) := by
  refine SCall.mk (fn := Try.f192) (by kernel_rfl) rfl (Nat.le_of_ble_eq_true (by kernel_rfl)) ?_
  refine goC ?_
  simp -dsimp +decide (disch := first | omega | simp +decide only [kinpb0]) only [kinpb6, ↓brun_b, envOf, Nat.reduceAdd]
  refine SQ.answer (rs := [.tmp 2]) rfl rfl ?_
  simp -dsimp +decide (disch := first | omega | simp +decide only [kinpb0]) only [kinpb7, ↓brun_b, rho]
theorem bodyF_3 (F : Frm) : (SV.agg ([.v (.int .i64 F.fi), .v (.int .i64 F.fn), .v (.int .i64 F.ti), .v (.int .i64 F.tn), .v (.int .i64 F.n)])).flat = true := by
  simp +decide only [kinpb3, Bool.and_self]
theorem bare_ent3 {fz : Nat → Option SB} {ρ : Nat → Nat} (F : Frm) : EntL fz ρ (bare 3 F).fc.c (FC.c { zF with kind := .v (.int .i64 3), fi := .v (.int .i64 F.fi), fn := .v (.int .i64 F.fn), ti := .v (.int .i64 F.ti), tn := .v (.int .i64 F.tn), n := .v (.int .i64 F.n) }) := by
  have e : bare 3 F = { kF 3 with fi := F.fi, fn := F.fn, ti := F.ti, tn := F.tn, n := F.n } := rfl
  rw [e]
  unfold kF zFrm Frm.fc zF
  rw [FC.ent]
  (repeat' apply And.intro) <;> first | exact Ent.self (flat_v _) | exact ent_nil _ | exact Ent.self (bsl_flat _) | exact Ent.self (lsl_flat _) | exact Ent.self (isl_flat _)
theorem plainB_3 (F : Frm) : Pure Try.prog 123 [.ifc 218 (.agg ([.v (.int .i64 F.fi), .v (.int .i64 F.fn), .v (.int .i64 F.ti), .v (.int .i64 F.tn), .v (.int .i64 F.n)]))] (.agg (bare 3 F).fc.c) :=
  SCall.tell [] (plainK_calls F.fi F.fn F.ti F.tn F.n) ⟨rfl, rfl, rfl, rfl, rfl, rfl, ⟨⟨_, rfl, bare_ent3 F⟩, trivial⟩, trivial⟩
theorem meth226 : Meth Try.prog 226 "Kind" 193 := fun v w => by kernel_rfl
def kinpb8 :=
  (aI (aI (aI (aI kinpc0 kinpc3) (aI @FC.c_length @FC.ent)) (aI (aI @H1.c_length @I16.c_length) (aI @tab.a144 @tab.a145))) (aI (aI (aI @tab.a23 @tab.a3) (aI @tab.s144 @tab.s145)) (aI (aI @tab.s23 @tab.s3) (aI @tab.u145 @tab.u5))))
def kinpb9 :=
  (aI (aI (aI (aI kinpc3 @FC.c_length) (aI @H1.c_length @I16.c_length)) (aI (aI @bwk_a @eq_self.{1}) (aI @forall_const.{1} (aI @implies_true.{0} @implies_true.{1})))) (aI (aI (aI @tab.a144 @tab.a145) (aI @tab.a23 (aI @tab.a3 @tab.s144))) (aI (aI @tab.s145 @tab.s23) (aI @tab.s3 (aI @tab.u145 @tab.u5)))))
theorem kind_k4 (F : Frm) : Pure Try.prog 193 [.agg (SU.c ⟨F.who, .v (.int .i64 F.pn), F.a, F.b, .rsl 1 (lrows F.tr)⟩)] (.v (.int .i64 4)) := by
  refine SCall.mk (fn := Try.f193) (by kernel_rfl) rfl (Nat.le_of_ble_eq_true (by kernel_rfl)) ?_
  refine goC ?_
  simp -dsimp +decide (disch := first | omega | simp +decide only [kinpb0]) only [kinpb8, ↓brun_b, envOf]
  refine SQ.answer (rs := [.tmp 2]) rfl rfl ?_
  simp -dsimp +decide (disch := first | omega | simp +decide only [kinpb0]) only [kinpb9, ↓brun_b, rho]
theorem bodyF_4 (F : Frm) : (SV.agg (SU.c ⟨F.who, .v (.int .i64 F.pn), F.a, F.b, .rsl 1 (lrows F.tr)⟩)).flat = true := by
  simp +decide only [kinpb3, Bool.and_self]
theorem bare_ent4 {fz : Nat → Option SB} {ρ : Nat → Nat} (F : Frm) : EntL fz ρ (bare 4 F).fc.c (FC.c { zF with kind := .v (.int .i64 4), who := F.who, pn := .v (.int .i64 F.pn), a := F.a, b := F.b, tr := .rsl 1 (lrows F.tr) }) := by
  have e : bare 4 F = { kF 4 with who := F.who, pn := F.pn, a := F.a, b := F.b, tr := F.tr } := rfl
  rw [e]
  unfold kF zFrm Frm.fc zF
  rw [FC.ent]
  (repeat' apply And.intro) <;> first | exact Ent.self (flat_v _) | exact ent_nil _ | exact Ent.self (bsl_flat _) | exact Ent.self (lsl_flat _) | exact Ent.self (isl_flat _)
theorem plainB_4 (F : Frm) (h1 : F.tr.length * 8 ≤ 140737488355328) : Pure Try.prog 123 [.ifc 226 (.agg (SU.c ⟨F.who, .v (.int .i64 F.pn), F.a, F.b, .rsl 1 (lrows F.tr)⟩))] (.agg (bare 4 F).fc.c) :=
  SCall.tell [] (plain_k4 F.who F.pn F.a F.b F.tr h1) ⟨rfl, rfl, rfl, rfl, rfl, rfl, ⟨⟨_, rfl, bare_ent4 F⟩, trivial⟩, trivial⟩
theorem meth230 : Meth Try.prog 230 "Kind" 194 := fun v w => by kernel_rfl
def kinpb10 :=
  (aI (aI (aI kinpc0 kinpc3) (aI @FC.c_length (aI @FC.ent @H1.c_length))) (aI (aI @I16.c_length (aI @tab.a144 @tab.a23)) (aI @tab.s144 (aI @tab.s23 @tab.u5))))
def kinpb11 :=
  (aI (aI (aI kinpc3 (aI @FC.c_length @H1.c_length)) (aI (aI @I16.c_length @bwk_a) (aI @eq_self.{1} @forall_const.{1}))) (aI (aI @implies_true.{0} (aI @implies_true.{1} @tab.a144)) (aI (aI @tab.a23 @tab.s144) (aI @tab.s23 @tab.u5))))
theorem kind_k5 (F : Frm) : Pure Try.prog 194 [.agg (DR.c ⟨F.who, .v (.int .i64 F.pn)⟩)] (.v (.int .i64 5)) := by
  refine SCall.mk (fn := Try.f194) (by kernel_rfl) rfl (Nat.le_of_ble_eq_true (by kernel_rfl)) ?_
  refine goC ?_
  simp -dsimp +decide (disch := first | omega | simp +decide only [kinpb0]) only [kinpb10, ↓brun_b, envOf]
  refine SQ.answer (rs := [.tmp 2]) rfl rfl ?_
  simp -dsimp +decide (disch := first | omega | simp +decide only [kinpb0]) only [kinpb11, ↓brun_b, rho]
theorem bodyF_5 (F : Frm) : (SV.agg (DR.c ⟨F.who, .v (.int .i64 F.pn)⟩)).flat = true := by
  simp +decide only [kinpb3]
theorem bare_ent5 {fz : Nat → Option SB} {ρ : Nat → Nat} (F : Frm) : EntL fz ρ (bare 5 F).fc.c (FC.c { zF with kind := .v (.int .i64 5), who := F.who, pn := .v (.int .i64 F.pn) }) := by
  have e : bare 5 F = { kF 5 with who := F.who, pn := F.pn } := rfl
  rw [e]
  unfold kF zFrm Frm.fc zF
  rw [FC.ent]
  (repeat' apply And.intro) <;> first | exact Ent.self (flat_v _) | exact ent_nil _ | exact Ent.self (bsl_flat _) | exact Ent.self (lsl_flat _) | exact Ent.self (isl_flat _)
theorem plainB_5 (F : Frm) : Pure Try.prog 123 [.ifc 230 (.agg (DR.c ⟨F.who, .v (.int .i64 F.pn)⟩))] (.agg (bare 5 F).fc.c) :=
  SCall.tell [] (plain_k5 F.who F.pn) ⟨rfl, rfl, rfl, rfl, rfl, rfl, ⟨⟨_, rfl, bare_ent5 F⟩, trivial⟩, trivial⟩
theorem meth232 : Meth Try.prog 232 "Kind" 195 := fun v w => by kernel_rfl
def kinpb12 :=
  (aI (aI (aI kinpc0 (aI kinpc3 @FC.c_length)) (aI (aI @FC.ent @H1.c_length) (aI @I16.c_length @tab.a144))) (aI (aI @tab.a23 (aI @tab.a4 @tab.s144)) (aI (aI @tab.s23 @tab.s4) (aI @tab.u4 @tab.u5))))
def kinpb13 :=
  (aI (aI (aI (aI kinpc3 @FC.c_length) (aI @H1.c_length @I16.c_length)) (aI (aI @bwk_a @eq_self.{1}) (aI @forall_const.{1} @implies_true.{0}))) (aI (aI (aI @implies_true.{1} @tab.a144) (aI @tab.a23 @tab.a4)) (aI (aI @tab.s144 @tab.s23) (aI @tab.s4 (aI @tab.u4 @tab.u5)))))
theorem kind_k6 (F : Frm) : Pure Try.prog 195 [.agg (PT.c ⟨F.who, .v (.int .i64 F.pn), .v (.bool F.toA)⟩)] (.v (.int .i64 6)) := by
  refine SCall.mk (fn := Try.f195) (by kernel_rfl) rfl (Nat.le_of_ble_eq_true (by kernel_rfl)) ?_
  refine goC ?_
  simp -dsimp +decide (disch := first | omega | simp +decide only [kinpb0]) only [kinpb12, ↓brun_b, envOf]
  refine SQ.answer (rs := [.tmp 2]) rfl rfl ?_
  simp -dsimp +decide (disch := first | omega | simp +decide only [kinpb0]) only [kinpb13, ↓brun_b, rho]
theorem bodyF_6 (F : Frm) : (SV.agg (PT.c ⟨F.who, .v (.int .i64 F.pn), .v (.bool F.toA)⟩)).flat = true := by
  simp +decide only [kinpb3, Bool.and_self]
theorem bare_ent6 {fz : Nat → Option SB} {ρ : Nat → Nat} (F : Frm) : EntL fz ρ (bare 6 F).fc.c (FC.c { zF with kind := .v (.int .i64 6), who := F.who, pn := .v (.int .i64 F.pn), toA := .v (.bool F.toA) }) := by
  have e : bare 6 F = { kF 6 with who := F.who, pn := F.pn, toA := F.toA } := rfl
  rw [e]
  unfold kF zFrm Frm.fc zF
  rw [FC.ent]
  (repeat' apply And.intro) <;> first | exact Ent.self (flat_v _) | exact ent_nil _ | exact Ent.self (bsl_flat _) | exact Ent.self (lsl_flat _) | exact Ent.self (isl_flat _)
theorem plainB_6 (F : Frm) : Pure Try.prog 123 [.ifc 232 (.agg (PT.c ⟨F.who, .v (.int .i64 F.pn), .v (.bool F.toA)⟩))] (.agg (bare 6 F).fc.c) :=
  SCall.tell [] (plain_k6 F.who F.pn F.toA) ⟨rfl, rfl, rfl, rfl, rfl, rfl, ⟨⟨_, rfl, bare_ent6 F⟩, trivial⟩, trivial⟩
theorem meth235 : Meth Try.prog 235 "Kind" 196 := fun v w => by kernel_rfl
def kinpb14 :=
  (aI (aI (aI (aI kinpc0 kinpc3) (aI @FC.c_length @FC.ent)) (aI (aI @H1.c_length @I16.c_length) (aI @tab.a144 @tab.a23))) (aI (aI (aI @tab.a4 @tab.a79) (aI @tab.s144 @tab.s23)) (aI (aI @tab.s4 @tab.s79) (aI @tab.u4 (aI @tab.u5 @tab.u79)))))
def kinpb15 :=
  (aI (aI (aI (aI kinpc3 @FC.c_length) (aI @H1.c_length (aI @I16.c_length @bwk_a))) (aI (aI @eq_self.{1} @forall_const.{1}) (aI @implies_true.{0} (aI @implies_true.{1} @tab.a144)))) (aI (aI (aI @tab.a23 @tab.a4) (aI @tab.a79 (aI @tab.s144 @tab.s23))) (aI (aI @tab.s4 @tab.s79) (aI @tab.u4 (aI @tab.u5 @tab.u79)))))
theorem kind_k7 (F : Frm) : Pure Try.prog 196 [.agg (PE.c ⟨F.who, .v (.int .i64 F.pn), .v (.bool F.toA), .rsl 16 (idrs F.is)⟩)] (.v (.int .i64 7)) := by
  refine SCall.mk (fn := Try.f196) (by kernel_rfl) rfl (Nat.le_of_ble_eq_true (by kernel_rfl)) ?_
  refine goC ?_
  simp -dsimp +decide (disch := first | omega | simp +decide only [kinpb0]) only [kinpb14, ↓brun_b, envOf]
  refine SQ.answer (rs := [.tmp 2]) rfl rfl ?_
  simp -dsimp +decide (disch := first | omega | simp +decide only [kinpb0]) only [kinpb15, ↓brun_b, rho]
theorem bodyF_7 (F : Frm) : (SV.agg (PE.c ⟨F.who, .v (.int .i64 F.pn), .v (.bool F.toA), .rsl 16 (idrs F.is)⟩)).flat = true := by
  simp +decide only [kinpb3, Bool.and_self]
theorem bare_ent7 {fz : Nat → Option SB} {ρ : Nat → Nat} (F : Frm) : EntL fz ρ (bare 7 F).fc.c (FC.c { zF with kind := .v (.int .i64 7), who := F.who, pn := .v (.int .i64 F.pn), toA := .v (.bool F.toA), is := .rsl 16 (idrs F.is) }) := by
  have e : bare 7 F = { kF 7 with who := F.who, pn := F.pn, toA := F.toA, is := F.is } := rfl
  rw [e]
  unfold kF zFrm Frm.fc zF
  rw [FC.ent]
  (repeat' apply And.intro) <;> first | exact Ent.self (flat_v _) | exact ent_nil _ | exact Ent.self (bsl_flat _) | exact Ent.self (lsl_flat _) | exact Ent.self (isl_flat _)
theorem plainB_7 (F : Frm) (h1 : F.is.length * 16 ≤ 140737488355328) : Pure Try.prog 123 [.ifc 235 (.agg (PE.c ⟨F.who, .v (.int .i64 F.pn), .v (.bool F.toA), .rsl 16 (idrs F.is)⟩))] (.agg (bare 7 F).fc.c) :=
  SCall.tell [] (plain_k7 F.who F.pn F.toA F.is h1) ⟨rfl, rfl, rfl, rfl, rfl, rfl, ⟨⟨_, rfl, bare_ent7 F⟩, trivial⟩, trivial⟩
theorem meth237 : Meth Try.prog 237 "Kind" 197 := fun v w => by kernel_rfl
def kinpb16 :=
  (aI (aI (aI (aI kinpc0 kinpc3) (aI @FC.c_length @FC.ent)) (aI (aI @H1.c_length @I16.c_length) (aI @tab.a144 (aI @tab.a145 @tab.a23)))) (aI (aI (aI @tab.a3 @tab.a4) (aI @tab.s144 (aI @tab.s145 @tab.s23))) (aI (aI @tab.s3 @tab.s4) (aI @tab.u145 (aI @tab.u4 @tab.u5)))))
def kinpb17 :=
  (aI (aI (aI (aI kinpc3 @FC.c_length) (aI @H1.c_length (aI @I16.c_length @bwk_a))) (aI (aI @eq_self.{1} (aI @forall_const.{1} @implies_true.{0})) (aI @implies_true.{1} (aI @tab.a144 @tab.a145)))) (aI (aI (aI @tab.a23 @tab.a3) (aI @tab.a4 (aI @tab.s144 @tab.s145))) (aI (aI @tab.s23 (aI @tab.s3 @tab.s4)) (aI @tab.u145 (aI @tab.u4 @tab.u5)))))
theorem kind_k8 (F : Frm) : Pure Try.prog 197 [.agg (AK.c ⟨F.a, F.b, .v (.int .i64 F.op), F.who, .v (.int .i64 F.pn), .v (.bool F.toA), .rsl 1 (lrows F.tr)⟩)] (.v (.int .i64 8)) := by
  refine SCall.mk (fn := Try.f197) (by kernel_rfl) rfl (Nat.le_of_ble_eq_true (by kernel_rfl)) ?_
  refine goC ?_
  simp -dsimp +decide (disch := first | omega | simp +decide only [kinpb0]) only [kinpb16, ↓brun_b, envOf]
  refine SQ.answer (rs := [.tmp 2]) rfl rfl ?_
  simp -dsimp +decide (disch := first | omega | simp +decide only [kinpb0]) only [kinpb17, ↓brun_b, rho]
theorem bodyF_8 (F : Frm) : (SV.agg (AK.c ⟨F.a, F.b, .v (.int .i64 F.op), F.who, .v (.int .i64 F.pn), .v (.bool F.toA), .rsl 1 (lrows F.tr)⟩)).flat = true := by
  simp +decide only [kinpb3, Bool.and_self]
theorem bare_ent8 {fz : Nat → Option SB} {ρ : Nat → Nat} (F : Frm) : EntL fz ρ (bare 8 F).fc.c (FC.c { zF with kind := .v (.int .i64 8), a := F.a, b := F.b, op := .v (.int .i64 F.op), who := F.who, pn := .v (.int .i64 F.pn), toA := .v (.bool F.toA), tr := .rsl 1 (lrows F.tr) }) := by
  have e : bare 8 F = { kF 8 with a := F.a, b := F.b, op := F.op, who := F.who, pn := F.pn, toA := F.toA, tr := F.tr } := rfl
  rw [e]
  unfold kF zFrm Frm.fc zF
  rw [FC.ent]
  (repeat' apply And.intro) <;> first | exact Ent.self (flat_v _) | exact ent_nil _ | exact Ent.self (bsl_flat _) | exact Ent.self (lsl_flat _) | exact Ent.self (isl_flat _)
theorem plainB_8 (F : Frm) (h1 : F.tr.length * 8 ≤ 140737488355328) : Pure Try.prog 123 [.ifc 237 (.agg (AK.c ⟨F.a, F.b, .v (.int .i64 F.op), F.who, .v (.int .i64 F.pn), .v (.bool F.toA), .rsl 1 (lrows F.tr)⟩))] (.agg (bare 8 F).fc.c) :=
  SCall.tell [] (plain_k8 F.a F.b F.op F.who F.pn F.toA F.tr h1) ⟨rfl, rfl, rfl, rfl, rfl, rfl, ⟨⟨_, rfl, bare_ent8 F⟩, trivial⟩, trivial⟩
theorem meth239 : Meth Try.prog 239 "Kind" 198 := fun v w => by kernel_rfl
def kinpb18 :=
  (aI (aI (aI kinpc0 kinpc3) (aI @FC.c_length @FC.ent)) (aI (aI @H1.c_length @I16.c_length) (aI @tab.a23 (aI @tab.s23 @tab.u5))))
def kinpb19 :=
  (aI (aI (aI kinpc3 (aI @FC.c_length @H1.c_length)) (aI @I16.c_length (aI @bwk_a @eq_self.{1}))) (aI (aI @forall_const.{1} (aI @implies_true.{0} @implies_true.{1})) (aI @tab.a23 (aI @tab.s23 @tab.u5))))
theorem kind_k9 (F : Frm) : Pure Try.prog 198 [.agg (AD.c ⟨F.a, .v (.int .i64 F.n)⟩)] (.v (.int .i64 9)) := by
  refine SCall.mk (fn := Try.f198) (by kernel_rfl) rfl (Nat.le_of_ble_eq_true (by kernel_rfl)) ?_
  refine goC ?_
  simp -dsimp +decide (disch := first | omega | simp +decide only [kinpb0]) only [kinpb18, ↓brun_b, envOf]
  refine SQ.answer (rs := [.tmp 2]) rfl rfl ?_
  simp -dsimp +decide (disch := first | omega | simp +decide only [kinpb0]) only [kinpb19, ↓brun_b, rho]
theorem bodyF_9 (F : Frm) : (SV.agg (AD.c ⟨F.a, .v (.int .i64 F.n)⟩)).flat = true := by
  simp +decide only [kinpb3]
theorem bare_ent9 {fz : Nat → Option SB} {ρ : Nat → Nat} (F : Frm) : EntL fz ρ (bare 9 F).fc.c (FC.c { zF with kind := .v (.int .i64 9), a := F.a, n := .v (.int .i64 F.n) }) := by
  have e : bare 9 F = { kF 9 with a := F.a, n := F.n } := rfl
  rw [e]
  unfold kF zFrm Frm.fc zF
  rw [FC.ent]
  (repeat' apply And.intro) <;> first | exact Ent.self (flat_v _) | exact ent_nil _ | exact Ent.self (bsl_flat _) | exact Ent.self (lsl_flat _) | exact Ent.self (isl_flat _)
theorem plainB_9 (F : Frm) : Pure Try.prog 123 [.ifc 239 (.agg (AD.c ⟨F.a, .v (.int .i64 F.n)⟩))] (.agg (bare 9 F).fc.c) :=
  SCall.tell [] (plain_k9 F.a F.n) ⟨rfl, rfl, rfl, rfl, rfl, rfl, ⟨⟨_, rfl, bare_ent9 F⟩, trivial⟩, trivial⟩
theorem meth241 : Meth Try.prog 241 "Kind" 199 := fun v w => by kernel_rfl
def kinpb20 :=
  (aI (aI (aI (aI kinpc0 kinpc3) (aI @FC.c_length @FC.ent)) (aI (aI @H1.c_length @I16.c_length) (aI @tab.a147 (aI @tab.a23 @tab.a3)))) (aI (aI (aI @tab.a35 @tab.f149x0) (aI @tab.f149x1 (aI @tab.f149x2 @tab.s147))) (aI (aI @tab.s23 @tab.s3) (aI @tab.s35 (aI @tab.u35 @tab.u5)))))
def kinpb21 :=
  (aI (aI (aI (aI kinpc3 @FC.c_length) (aI @H1.c_length (aI @I16.c_length @bwk_a))) (aI (aI @eq_self.{1} (aI @forall_const.{1} @implies_true.{0})) (aI @implies_true.{1} (aI @tab.a147 @tab.a23)))) (aI (aI (aI @tab.a3 @tab.a35) (aI @tab.f149x0 (aI @tab.f149x1 @tab.f149x2))) (aI (aI @tab.s147 (aI @tab.s23 @tab.s3)) (aI @tab.s35 (aI @tab.u35 @tab.u5)))))
theorem kind_k10 (F : Frm) : Pure Try.prog 199 [.agg (PK.c ⟨F.a, F.b, .v (.int .i64 F.n), .v (.int .i64 F.op), .v (.int .i64 F.ttl), F.key, .v (.int .i64 F.vn), F.vwho, bsl F.val, bsl F.tx⟩)] (.v (.int .i64 10)) := by
  refine SCall.mk (fn := Try.f199) (by kernel_rfl) rfl (Nat.le_of_ble_eq_true (by kernel_rfl)) ?_
  refine goC ?_
  simp -dsimp +decide (disch := first | omega | simp +decide only [kinpb0]) only [kinpb20, ↓brun_b, envOf]
  refine SQ.answer (rs := [.tmp 2]) rfl rfl ?_
  simp -dsimp +decide (disch := first | omega | simp +decide only [kinpb0]) only [kinpb21, ↓brun_b, rho]
theorem bodyF_10 (F : Frm) : (SV.agg (PK.c ⟨F.a, F.b, .v (.int .i64 F.n), .v (.int .i64 F.op), .v (.int .i64 F.ttl), F.key, .v (.int .i64 F.vn), F.vwho, bsl F.val, bsl F.tx⟩)).flat = true := by
  simp +decide only [kinpb3, Bool.and_self]
theorem bare_ent10 {fz : Nat → Option SB} {ρ : Nat → Nat} (F : Frm) : EntL fz ρ (bare 10 F).fc.c (FC.c { zF with kind := .v (.int .i64 10), a := F.a, b := F.b, n := .v (.int .i64 F.n), op := .v (.int .i64 F.op), ttl := .v (.int .i64 F.ttl), key := F.key, vn := .v (.int .i64 F.vn), vwho := F.vwho, val := bsl F.val, tx := bsl F.tx }) := by
  have e : bare 10 F = { kF 10 with a := F.a, b := F.b, n := F.n, op := F.op, ttl := F.ttl, key := F.key, vn := F.vn, vwho := F.vwho, val := F.val, tx := F.tx } := rfl
  rw [e]
  unfold kF zFrm Frm.fc zF
  rw [FC.ent]
  (repeat' apply And.intro) <;> first | exact Ent.self (flat_v _) | exact ent_nil _ | exact Ent.self (bsl_flat _) | exact Ent.self (lsl_flat _) | exact Ent.self (isl_flat _)
theorem plainB_10 (F : Frm) (h1 : F.tx.length ≤ 140737488355328) (h2 : F.val.length ≤ 140737488355328) : Pure Try.prog 123 [.ifc 241 (.agg (PK.c ⟨F.a, F.b, .v (.int .i64 F.n), .v (.int .i64 F.op), .v (.int .i64 F.ttl), F.key, .v (.int .i64 F.vn), F.vwho, bsl F.val, bsl F.tx⟩))] (.agg (bare 10 F).fc.c) :=
  SCall.tell [] (plain_k10 F.a F.b F.n F.op F.ttl F.key F.vwho F.vn F.val h2 F.tx h1) ⟨rfl, rfl, rfl, rfl, rfl, rfl, ⟨⟨_, rfl, bare_ent10 F⟩, trivial⟩, trivial⟩
theorem meth244 : Meth Try.prog 244 "Kind" 200 := fun v w => by kernel_rfl
def kinpb22 :=
  (aI (aI (aI (aI kinpc0 kinpc3) (aI @FC.c_length (aI @FC.ent @H1.c_length))) (aI (aI @I16.c_length (aI @tab.a144 @tab.a147)) (aI @tab.a23 (aI @tab.a35 @tab.a4)))) (aI (aI (aI @tab.f149x0 @tab.f149x1) (aI @tab.f149x2 (aI @tab.s144 @tab.s147))) (aI (aI @tab.s23 (aI @tab.s35 @tab.s4)) (aI @tab.u35 (aI @tab.u4 @tab.u5)))))
def kinpb23 :=
  (aI (aI (aI (aI kinpc3 (aI @FC.c_length @H1.c_length)) (aI @I16.c_length (aI @bwk_a @eq_self.{1}))) (aI (aI @forall_const.{1} (aI @implies_true.{0} @implies_true.{1})) (aI @tab.a144 (aI @tab.a147 @tab.a23)))) (aI (aI (aI @tab.a35 (aI @tab.a4 @tab.f149x0)) (aI @tab.f149x1 (aI @tab.f149x2 @tab.s144))) (aI (aI @tab.s147 (aI @tab.s23 @tab.s35)) (aI (aI @tab.s4 @tab.u35) (aI @tab.u4 @tab.u5)))))
theorem kind_k11 (F : Frm) : Pure Try.prog 200 [.agg (CP.c ⟨F.who, .v (.int .i64 F.pn), .v (.bool F.toA), F.key, .v (.int .i64 F.vn), F.vwho, bsl F.val⟩)] (.v (.int .i64 11)) := by
  refine SCall.mk (fn := Try.f200) (by kernel_rfl) rfl (Nat.le_of_ble_eq_true (by kernel_rfl)) ?_
  refine goC ?_
  simp -dsimp +decide (disch := first | omega | simp +decide only [kinpb0]) only [kinpb22, ↓brun_b, envOf]
  refine SQ.answer (rs := [.tmp 2]) rfl rfl ?_
  simp -dsimp +decide (disch := first | omega | simp +decide only [kinpb0]) only [kinpb23, ↓brun_b, rho]
theorem bodyF_11 (F : Frm) : (SV.agg (CP.c ⟨F.who, .v (.int .i64 F.pn), .v (.bool F.toA), F.key, .v (.int .i64 F.vn), F.vwho, bsl F.val⟩)).flat = true := by
  simp +decide only [kinpb3, Bool.and_self]
theorem bare_ent11 {fz : Nat → Option SB} {ρ : Nat → Nat} (F : Frm) : EntL fz ρ (bare 11 F).fc.c (FC.c { zF with kind := .v (.int .i64 11), who := F.who, pn := .v (.int .i64 F.pn), toA := .v (.bool F.toA), key := F.key, vn := .v (.int .i64 F.vn), vwho := F.vwho, val := bsl F.val }) := by
  have e : bare 11 F = { kF 11 with who := F.who, pn := F.pn, toA := F.toA, key := F.key, vn := F.vn, vwho := F.vwho, val := F.val } := rfl
  rw [e]
  unfold kF zFrm Frm.fc zF
  rw [FC.ent]
  (repeat' apply And.intro) <;> first | exact Ent.self (flat_v _) | exact ent_nil _ | exact Ent.self (bsl_flat _) | exact Ent.self (lsl_flat _) | exact Ent.self (isl_flat _)
theorem plainB_11 (F : Frm) (h1 : F.val.length ≤ 140737488355328) : Pure Try.prog 123 [.ifc 244 (.agg (CP.c ⟨F.who, .v (.int .i64 F.pn), .v (.bool F.toA), F.key, .v (.int .i64 F.vn), F.vwho, bsl F.val⟩))] (.agg (bare 11 F).fc.c) :=
  SCall.tell [] (plain_k11 F.who F.pn F.toA F.key F.vwho F.vn F.val h1) ⟨rfl, rfl, rfl, rfl, rfl, rfl, ⟨⟨_, rfl, bare_ent11 F⟩, trivial⟩, trivial⟩
theorem meth246 : Meth Try.prog 246 "Kind" 201 := fun v w => by kernel_rfl
def kinpb24 :=
  (aI (aI (aI (aI kinpc0 kinpc3) (aI @FC.c_length @FC.ent)) (aI (aI @H1.c_length @I16.c_length) (aI @tab.a144 @tab.a147))) (aI (aI (aI @tab.a23 @tab.a4) (aI @tab.s144 @tab.s147)) (aI (aI @tab.s23 @tab.s4) (aI @tab.u4 @tab.u5))))
def kinpb25 :=
  (aI (aI (aI (aI kinpc3 @FC.c_length) (aI @H1.c_length @I16.c_length)) (aI (aI @bwk_a @eq_self.{1}) (aI @forall_const.{1} (aI @implies_true.{0} @implies_true.{1})))) (aI (aI (aI @tab.a144 @tab.a147) (aI @tab.a23 (aI @tab.a4 @tab.s144))) (aI (aI @tab.s147 @tab.s23) (aI @tab.s4 (aI @tab.u4 @tab.u5)))))
theorem kind_k12 (F : Frm) : Pure Try.prog 201 [.agg (GT.c ⟨F.who, .v (.int .i64 F.pn), .v (.bool F.toA), F.key, .v (.int .i64 F.vn), F.vwho⟩)] (.v (.int .i64 12)) := by
  refine SCall.mk (fn := Try.f201) (by kernel_rfl) rfl (Nat.le_of_ble_eq_true (by kernel_rfl)) ?_
  refine goC ?_
  simp -dsimp +decide (disch := first | omega | simp +decide only [kinpb0]) only [kinpb24, ↓brun_b, envOf]
  refine SQ.answer (rs := [.tmp 2]) rfl rfl ?_
  simp -dsimp +decide (disch := first | omega | simp +decide only [kinpb0]) only [kinpb25, ↓brun_b, rho]
theorem bodyF_12 (F : Frm) : (SV.agg (GT.c ⟨F.who, .v (.int .i64 F.pn), .v (.bool F.toA), F.key, .v (.int .i64 F.vn), F.vwho⟩)).flat = true := by
  simp +decide only [kinpb3, Bool.and_self]
theorem bare_ent12 {fz : Nat → Option SB} {ρ : Nat → Nat} (F : Frm) : EntL fz ρ (bare 12 F).fc.c (FC.c { zF with kind := .v (.int .i64 12), who := F.who, pn := .v (.int .i64 F.pn), toA := .v (.bool F.toA), key := F.key, vn := .v (.int .i64 F.vn), vwho := F.vwho }) := by
  have e : bare 12 F = { kF 12 with who := F.who, pn := F.pn, toA := F.toA, key := F.key, vn := F.vn, vwho := F.vwho } := rfl
  rw [e]
  unfold kF zFrm Frm.fc zF
  rw [FC.ent]
  (repeat' apply And.intro) <;> first | exact Ent.self (flat_v _) | exact ent_nil _ | exact Ent.self (bsl_flat _) | exact Ent.self (lsl_flat _) | exact Ent.self (isl_flat _)
theorem plainB_12 (F : Frm) : Pure Try.prog 123 [.ifc 246 (.agg (GT.c ⟨F.who, .v (.int .i64 F.pn), .v (.bool F.toA), F.key, .v (.int .i64 F.vn), F.vwho⟩))] (.agg (bare 12 F).fc.c) :=
  SCall.tell [] (plain_k12 F.who F.pn F.toA F.key F.vwho F.vn) ⟨rfl, rfl, rfl, rfl, rfl, rfl, ⟨⟨_, rfl, bare_ent12 F⟩, trivial⟩, trivial⟩
end Go.Proofs
namespace Go.Proofs
open Go Go.SL
set_option maxRecDepth 100000
theorem strEq (l m : List UInt8) : decide ((⟨l.toArray⟩ : ByteArray) = ⟨m.toArray⟩) = decide (l = m) := by
  congr 1
  refine propext ⟨fun h => ?_, fun h => by rw [h]⟩
  have := congrArg ByteArray.data h
  simpa using this
theorem I16.ext' {a b : I16} (h : a.l = b.l) : a = b := by
  cases a
  cases b
  simp only at h
  subst h
  rfl
def frmEq (F H : Frm) : Bool :=
  decide (F.tr = H.tr) && (decide (F.is.map I16.l = H.is.map I16.l) && (decide (F.kind = H.kind) && ((decide (F.who.l = H.who.l) && decide (F.pn = H.pn)) && (decide (F.toA = H.toA) && (decide (F.a.l = H.a.l) && (decide (F.b.l = H.b.l) && (decide (F.n = H.n) &&
    ((decide (F.fi = H.fi) && decide (F.fn = H.fn)) && ((decide (F.ti = H.ti) && decide (F.tn = H.tn)) && (decide (F.op = H.op) && (decide (F.ttl = H.ttl) && (decide (F.tx = H.tx) && (decide (F.key.l = H.key.l) && ((decide (F.vn = H.vn) && decide (F.vwho.l = H.vwho.l)) && decide (F.val = H.val)))))))))))))))
theorem frmEq_iff (F H : Frm) : frmEq F H = true ↔ F = H := by
  have inj : ∀ a b : I16, a.l = b.l ↔ a = b := fun a b => ⟨I16.ext', fun h => by rw [h]⟩
  have injL : ∀ a b : List I16, a.map I16.l = b.map I16.l ↔ a = b := by
    intro a
    induction a with
    | nil => intro b; cases b <;> simp
    | cons x a ih =>
      intro b
      cases b with
      | nil => simp
      | cons y b => simp only [List.map_cons, List.cons.injEq, inj, ih]
  obtain ⟨kind, who, pn, toA, a, b, n, fi, fn, ti, tn, tr, is, key, vn, vwho, val, op, ttl, tx⟩ := F
  obtain ⟨kind', who', pn', toA', a', b', n', fi', fn', ti', tn', tr', is', key', vn', vwho', val', op', ttl', tx'⟩ := H
  simp only [frmEq, Bool.and_eq_true, decide_eq_true_eq, inj, injL, Frm.mk.injEq]
  constructor
  · rintro ⟨h1, h2, h3, ⟨h4, h5⟩, h6, h7, h8, h9, ⟨h10, h11⟩, ⟨h12, h13⟩, h14, h15, h16, h17, ⟨h18, h19⟩, h20⟩
    exact ⟨h3, h4, h5, h6, h7, h8, h9, h10, h11, h12, h13, h1, h2, h17, h18, h19, h20, h14, h15, h16⟩
  · rintro ⟨h3, h4, h5, h6, h7, h8, h9, h10, h11, h12, h13, h1, h2, h17, h18, h19, h20, h14, h15, h16⟩
    exact ⟨h1, h2, h3, ⟨h4, h5⟩, h6, h7, h8, h9, ⟨h10, h11⟩, ⟨h12, h13⟩, h14, h15, h16, h17, ⟨h18, h19⟩, h20⟩
theorem getD_ext {α : Type} (d : α) : ∀ (l m : List α), l.length = m.length → (∀ i, i < l.length → l.getD i d = m.getD i d) → l = m
  | [], [], _, _ => rfl
  | [], _ :: _, h, _ => by simp at h
  | _ :: _, [], h, _ => by simp at h
  | x :: l, y :: m, h, hh => by
    have h0 : x = y := by simpa using hh 0 (by simp)
    have := getD_ext d l m (by simpa using h) fun i hi => by simpa using hh (i + 1) (by simpa using hi)
    rw [h0, this]
def kinpb26 :=
  (aI (aI (aI kinpc2 @FC.c_length) (aI @H1.c_length (aI @H1.flat @I16.c_length))) (aI (aI @idrs_flat @idrs_len) (aI @lrow_len (aI @lrows_flat @lrows_length))))
def kinpc4 :=
  (aI (aI (aI (aI @FC.at_is @FC.at_kind) (aI @FC.at_n @FC.at_op)) (aI (aI @FC.at_toA @FC.at_tr) (aI @FC.at_ttl @FC.at_tx))) (aI (aI (aI @FC.at_val @FC.part_P) (aI @FC.part_a @FC.part_b)) (aI (aI @FC.part_from @FC.part_key) (aI @FC.part_to (aI @FC.part_ver @strEq)))))
def kinpc5 :=
  (aI (aI (aI @tab.f151x0 (aI @tab.f151x1 @tab.f151x10)) (aI (aI @tab.f151x11 @tab.f151x12) (aI @tab.f151x13 @tab.f151x2))) (aI (aI (aI @tab.f151x3 @tab.f151x4) (aI @tab.f151x5 @tab.f151x6)) (aI (aI @tab.f151x7 @tab.f151x8) (aI @tab.f151x9 @tab.u9))))
def kinpb27 :=
  (aI (aI (aI (aI (aI kinpc4 kinpc3) (aI kinpc5 @FC.c_length)) (aI (aI @H1.c_length @I16.c_length) (aI @idrs_len @lrows_length))) (aI (aI (aI @tab.a135 @tab.a144) (aI @tab.a145 @tab.a147)) (aI (aI @tab.a23 @tab.a3) (aI @tab.a35 (aI @tab.a4 @tab.a79))))) (aI (aI (aI (aI @tab.f149x0 @tab.f149x1) (aI @tab.f149x2 @tab.s135)) (aI (aI @tab.s144 @tab.s145) (aI @tab.s147 @tab.s23))) (aI (aI (aI @tab.s3 @tab.s35) (aI @tab.s4 @tab.s79)) (aI (aI @tab.u145 @tab.u35) (aI @tab.u4 (aI @tab.u5 @tab.u79))))))
def kinpb28 :=
  (aI (aI (aI (aI (aI kinpc3 kinpc5) (aI @FC.c_length @H1.c_length)) (aI (aI @I16.c_length @bwk_a) (aI @eq_self.{1} (aI @forall_const.{1} @implies_true.{0})))) (aI (aI (aI @implies_true.{1} @tab.a135) (aI @tab.a144 @tab.a145)) (aI (aI @tab.a147 @tab.a23) (aI @tab.a3 (aI @tab.a35 @tab.a4))))) (aI (aI (aI (aI @tab.a79 @tab.f149x0) (aI @tab.f149x1 @tab.f149x2)) (aI (aI @tab.s135 @tab.s144) (aI @tab.s145 (aI @tab.s147 @tab.s23)))) (aI (aI (aI @tab.s3 @tab.s35) (aI @tab.s4 @tab.s79)) (aI (aI @tab.u145 @tab.u35) (aI @tab.u4 (aI @tab.u5 @tab.u79))))))
def kinpb29 :=
  (aI (aI (aI (aI (aI kinpc4 kinpc3) (aI kinpc5 @FC.c_length)) (aI (aI @H1.c_length @I16.c_length) (aI @bwk_a (aI @eq_self.{1} @forall_const.{1})))) (aI (aI (aI @idrs_len @implies_true.{0}) (aI @implies_true.{1} (aI @lrows_length @tab.a135))) (aI (aI @tab.a144 @tab.a145) (aI @tab.a147 (aI @tab.a23 @tab.a3))))) (aI (aI (aI (aI @tab.a35 @tab.a4) (aI @tab.a79 (aI @tab.f149x0 @tab.f149x1))) (aI (aI @tab.f149x2 @tab.s135) (aI @tab.s144 (aI @tab.s145 @tab.s147)))) (aI (aI (aI @tab.s23 @tab.s3) (aI @tab.s35 (aI @tab.s4 @tab.s79))) (aI (aI @tab.u145 @tab.u35) (aI @tab.u4 (aI @tab.u5 @tab.u79))))))
def kinpb30 :=
  (aI (aI @List.length_cons.{0} (aI @List.length_nil.{0} @Nat.zero_add)) (aI (aI @roL_nil @roL_none) (aI @roL_row @ro_mk)))
def kinpb31 :=
  (aI (aI (aI (aI (aI kinpc4 kinpc3) (aI kinpc5 @FC.c_length)) (aI (aI @H1.c_length @I16.c_length) (aI @idrs_len (aI @lrow_cell @lrow_len)))) (aI (aI (aI @lrows_at @lrows_length) (aI @tab.a135 @tab.a144)) (aI (aI @tab.a145 @tab.a147) (aI @tab.a23 (aI @tab.a3 @tab.a35))))) (aI (aI (aI (aI @tab.a4 @tab.a79) (aI @tab.f149x0 @tab.f149x1)) (aI (aI @tab.f149x2 @tab.s135) (aI @tab.s144 (aI @tab.s145 @tab.s147)))) (aI (aI (aI @tab.s23 @tab.s3) (aI @tab.s35 (aI @tab.s4 @tab.s79))) (aI (aI @tab.u145 @tab.u35) (aI @tab.u4 (aI @tab.u5 @tab.u79))))))
set_option maxHeartbeats 16000000 in
theorem same143_calls (F H : Frm) (h1 : F.tr.length < 4611686018427387904) (h2 : F.is.length < 4611686018427387904) (h3 : H.tr.length < 4611686018427387904) (h4 : H.is.length < 4611686018427387904) : Pure Try.prog 143 [.agg F.fc.c, .agg H.fc.c] (.v (.bool (frmEq F H))) := by
  have hb : ∀ a b : Bool, (a == b) = decide (a = b) := fun a b => by cases a <;> cases b <;> rfl
  by_cases hl1 : F.tr.length = H.tr.length
  rotate_left
  · have d1 : decide ((F.tr.length : Int) = (H.tr.length : Int)) = false := decide_eq_false (by omega)
    have hE : frmEq F H = false := by
      have : ¬ F.tr = H.tr := fun h => hl1 (by rw [h])
      simp only [frmEq, this, decide_false, Bool.false_and]
    rw [hE]
    refine SCall.mk (fn := Try.f143) (by kernel_rfl) rfl (Nat.le_of_ble_eq_true (by kernel_rfl)) ?_
    refine goC ?_
    simp -dsimp +decide (disch := first | omega | simp +decide only [kinpb26]) only [kinpb27, ↓brun_b, envOf, Nat.reduceAdd, Nat.reduceBEq, Frm.fc, d1]
    refine SQ.answer (rs := [.tmp 4]) rfl rfl ?_
    simp -dsimp +decide (disch := first | omega | simp +decide only [kinpb26]) only [kinpb28, ↓brun_b, Nat.reduceAdd, rho]
  have d1 : decide ((F.tr.length : Int) = (H.tr.length : Int)) = true := decide_eq_true (by omega)
  by_cases hl2 : F.is.length = H.is.length
  rotate_left
  · have d2 : decide ((F.is.length : Int) = (H.is.length : Int)) = false := decide_eq_false (by omega)
    have hE : frmEq F H = false := by
      have : ¬ F.is.map I16.l = H.is.map I16.l := fun h => hl2 (by simpa using congrArg List.length h)
      simp only [frmEq, this, decide_false, Bool.false_and, Bool.and_false]
    rw [hE]
    refine SCall.mk (fn := Try.f143) (by kernel_rfl) rfl (Nat.le_of_ble_eq_true (by kernel_rfl)) ?_
    refine goC ?_
    simp -dsimp +decide (disch := first | omega | simp +decide only [kinpb26]) only [kinpb27, ↓brun_b, envOf, Nat.reduceAdd, Nat.reduceBEq, Frm.fc, d1, d2]
    refine SQ.answer (rs := [.tmp 4]) rfl rfl ?_
    simp -dsimp +decide (disch := first | omega | simp +decide only [kinpb26]) only [kinpb28, ↓brun_b, Nat.reduceAdd, rho]
  have d2 : decide ((F.is.length : Int) = (H.is.length : Int)) = true := decide_eq_true (by omega)
  refine SCall.mk (fn := Try.f143) (by kernel_rfl) rfl (Nat.le_of_ble_eq_true (by kernel_rfl)) ?_
  refine goC ?_
  simp -dsimp +decide (disch := first | omega | simp +decide only [kinpb26]) only [kinpb27, ↓brun_b, envOf, Nat.reduceAdd, Nat.reduceBEq, Frm.fc, d1, d2]
  refine Sem.loop (ι := {k : Nat // k ≤ F.tr.length ∧ ∀ i, i < k → F.tr.getD i 0 = H.tr.getD i 0}) (fun k => ⟨165, 0, [(2, .ptr 0 0 0), (3, .ptr 1 0 0), (4, .v (.bool false)), (25, .v (.int .i64 (F.tr.length : Int))), (26, .v (.int .i64 (k.1 : Int)))], [some (.row ⟨95, 1, true, 151, fun _ => F.fc.c⟩), some (.row ⟨95, 1, true, 151, fun _ => H.fc.c⟩)]⟩) (fun k => F.tr.length - k.1) ⟨0, by omega, fun i hi => by omega⟩ [0, 1] ?_ ?_
  · (refine Wk.ofC ?_; simp -dsimp +decide (disch := first | omega | simp +decide only [kinpb26]) only [kinpb29, ↓brun_b, Nat.reduceAdd, Nat.reduceBEq, Frm.fc])
  · rintro ⟨k, hk, hall⟩
    refine goC ?_
    simp -dsimp +decide (disch := first | omega | simp +decide only [kinpb26]) only [kinpb27, ↓brun_b, Nat.reduceAdd, Nat.reduceBEq, Frm.fc]
    refine SCond.split (fun h5 => ?_) (fun h5 => ?_)
    · simp only [decide_eq_true_eq] at h5
      have hk' : k < F.tr.length := by omega
      have hkG : k < H.tr.length := by omega
      have hw : IntKind.i64.wrap ((k : Int) + 1) = ((k + 1 : Nat) : Int) := by rw [wrap_i64 _ (by omega)]; rfl
      simp -dsimp +decide (disch := first | omega | simp +decide only [kinpb26]) only [kinpb27, ↓brun_b, Nat.reduceAdd, Nat.reduceBEq]
      refine Sem.draw' (by kernel_rfl) (.one 0 (.one 1 (.one 2 (.one 3 (.one 4 (.one 5 (.one 6 (.one 7 (.one 8 (.one 9 (.one 10 .done))))))))))) [] (by kernel_rfl) (fun G ff hG hf => ?_)
      simp +decide only [kinpb30, Nat.reduceAdd] at hG ⊢
      simp -dsimp +decide (disch := first | omega | simp +decide only [kinpb26]) only [kinpb31, ↓brun_b, Nat.reduceAdd, Nat.reduceBEq, Nat.reduceLeDiff, hG]
      refine And.intro (by omega) (And.intro (by omega) ?_)
      cases hd : decide (F.tr.getD k 0 = H.tr.getD k 0) with
      | true =>
        refine hf _ (Sem.go (k := 1000) ?_)
        simp +decide only [back_mk, backL_row, backL_nil, Nat.zero_add, Nat.reduceAdd]
        simp -dsimp +decide (disch := first | omega | simp +decide only [kinpb26]) only [kinpb27, ↓brun_b, Nat.reduceAdd, Nat.reduceBEq, hw]
        have he : F.tr.getD k 0 = H.tr.getD k 0 := of_decide_eq_true hd
        refine ⟨⟨k + 1, by omega, fun i hi => ?_⟩, [0, 1], ?_, by show F.tr.length - (k + 1) < F.tr.length - k; omega⟩
        · by_cases e : i = k
          · rw [e]; exact he
          · exact hall i (by omega)
        · (refine Wk.ofC ?_; simp -dsimp +decide (disch := first | omega | simp +decide only [kinpb26]) only [kinpb29, ↓brun_b, Nat.reduceAdd, Nat.reduceBEq])
      | false =>
        refine hf _ (Sem.go (k := 1000) ?_)
        simp +decide only [back_mk, backL_row, backL_nil, Nat.zero_add, Nat.reduceAdd]
        simp -dsimp +decide (disch := first | omega | simp +decide only [kinpb26]) only [kinpb27, ↓brun_b, Nat.reduceAdd]
        have hE : frmEq F H = false := by
          have : ¬ F.tr = H.tr := fun h => of_decide_eq_false hd (by rw [h])
          simp only [frmEq, this, decide_false, Bool.false_and]
        rw [hE]
        refine SQ.answer (rs := [.tmp 4]) rfl rfl ?_
        simp -dsimp +decide (disch := first | omega | simp +decide only [kinpb26]) only [kinpb28, ↓brun_b, Nat.reduceAdd, rho]
    · simp only [decide_eq_false_iff_not] at h5
      obtain rfl : k = F.tr.length := by omega
      have ht : F.tr = H.tr := getD_ext 0 _ _ hl1 hall
      simp -dsimp +decide (disch := first | omega | simp +decide only [kinpb26]) only [kinpb27, ↓brun_b, reduceIte, Nat.reduceAdd, Nat.reduceBEq]
      refine Sem.loop (ι := {k : Nat // k ≤ F.is.length ∧ ∀ i, i < k → F.is.getD i I16.zero = H.is.getD i I16.zero}) (fun k => ⟨165, 0, [(2, .ptr 0 0 0), (3, .ptr 1 0 0), (4, .v (.bool false)), (43, .v (.int .i64 (F.is.length : Int))), (44, .v (.int .i64 (k.1 : Int)))], [some (.row ⟨95, 1, true, 151, fun _ => F.fc.c⟩), some (.row ⟨95, 1, true, 151, fun _ => H.fc.c⟩)]⟩) (fun k => F.is.length - k.1) ⟨0, by omega, fun i hi => by omega⟩ [0, 1] ?_ ?_
      · (refine Wk.ofC ?_; simp -dsimp +decide (disch := first | omega | simp +decide only [kinpb26]) only [kinpb29, ↓brun_b, Nat.reduceAdd, Nat.reduceBEq, Frm.fc])
      · rintro ⟨k, hk, hall⟩
        refine goC ?_
        simp -dsimp +decide (disch := first | omega | simp +decide only [kinpb26]) only [kinpb27, ↓brun_b, Nat.reduceAdd, Nat.reduceBEq, Frm.fc]
        refine SCond.split (fun h6 => ?_) (fun h6 => ?_)
        · simp only [decide_eq_true_eq] at h6
          have hk' : k < F.is.length := by omega
          have hkG : k < H.is.length := by omega
          have hw : IntKind.i64.wrap ((k : Int) + 1) = ((k + 1 : Nat) : Int) := by rw [wrap_i64 _ (by omega)]; rfl
          simp -dsimp +decide (disch := first | omega | simp +decide only [kinpb26]) only [kinpb27, ↓brun_b, Nat.reduceAdd, Nat.reduceBEq]
          refine Sem.draw' (by kernel_rfl) (.one 0 (.one 1 (.one 2 (.one 3 (.one 4 (.one 5 (.one 6 (.one 7 (.one 8 (.one 9 (.one 10 .done))))))))))) [] (by kernel_rfl) (fun G ff hG hf => ?_)
          simp +decide only [kinpb30, Nat.reduceAdd] at hG ⊢
          simp -dsimp +decide (disch := first | omega | simp +decide only [kinpb26]) only [kinpb27, ↓brun_b, Nat.reduceAdd, Nat.reduceBEq, Nat.reduceLeDiff, sBin_agg .neq 23 _ _ _ (I16.cellsEq _ _), hG, idrs_at _ _ hk' I16.zero, idrs_at _ _ hkG I16.zero]
          refine And.intro (by omega) (And.intro (by omega) (And.intro (flat23 _ _) ?_))
          cases hd : decide ((F.is.getD k I16.zero).l = (H.is.getD k I16.zero).l) with
          | true =>
            refine hf _ (Sem.go (k := 1000) ?_)
            simp +decide only [back_mk, backL_row, backL_nil, Nat.zero_add, Nat.reduceAdd]
            simp -dsimp +decide (disch := first | omega | simp +decide only [kinpb26]) only [kinpb27, ↓brun_b, Nat.reduceAdd, Nat.reduceBEq, hw]
            have he : F.is.getD k I16.zero = H.is.getD k I16.zero := I16.ext' (of_decide_eq_true hd)
            refine ⟨⟨k + 1, by omega, fun i hi => ?_⟩, [0, 1], ?_, by show F.is.length - (k + 1) < F.is.length - k; omega⟩
            · by_cases e : i = k
              · rw [e]; exact he
              · exact hall i (by omega)
            · (refine Wk.ofC ?_; simp -dsimp +decide (disch := first | omega | simp +decide only [kinpb26]) only [kinpb29, ↓brun_b, Nat.reduceAdd, Nat.reduceBEq])
          | false =>
            refine hf _ (Sem.go (k := 1000) ?_)
            simp +decide only [back_mk, backL_row, backL_nil, Nat.zero_add, Nat.reduceAdd]
            simp -dsimp +decide (disch := first | omega | simp +decide only [kinpb26]) only [kinpb27, ↓brun_b, Nat.reduceAdd]
            have hE : frmEq F H = false := by
              have : ¬ F.is.map I16.l = H.is.map I16.l := fun h => of_decide_eq_false hd (by
                have h7 : (F.is.map I16.l).getD k [] = (H.is.map I16.l).getD k [] := by rw [h]
                simpa [List.getD_eq_getElem?_getD, List.getElem?_eq_getElem hk', List.getElem?_eq_getElem hkG] using h7)
              simp only [frmEq, this, decide_false, Bool.false_and, Bool.and_false]
            rw [hE]
            refine SQ.answer (rs := [.tmp 4]) rfl rfl ?_
            simp -dsimp +decide (disch := first | omega | simp +decide only [kinpb26]) only [kinpb28, ↓brun_b, Nat.reduceAdd, rho]
        · simp only [decide_eq_false_iff_not] at h6
          obtain rfl : k = F.is.length := by omega
          have hi : F.is = H.is := getD_ext I16.zero _ _ hl2 hall
          simp only [lapp_cons, lapp_nil]
          cases ek : decide (F.kind = H.kind) with
          | false =>
            simp -dsimp +decide (disch := first | omega | simp +decide only [kinpb26]) only [kinpb27, ↓brun_b, reduceIte, Nat.reduceAdd, Nat.reduceBEq, ek]
            (repeat' first | exact flat144 _ _ _ _ | exact flat23 _ _ | exact flat135 _ _ _ _ | exact flat147 _ _ _ _ | refine And.intro ?_ ?_)
            have hE : frmEq F H = false := by simp only [frmEq, ht, hi, ek, decide_true, Bool.true_and, Bool.false_and]
            rw [hE]
            refine SQ.answer (rs := [.tmp 4]) rfl rfl ?_
            simp -dsimp +decide (disch := first | omega | simp +decide only [kinpb26]) only [kinpb28, ↓brun_b, Nat.reduceAdd, rho]
          | true =>
            cases ep : (decide (F.who.l = H.who.l) && decide (F.pn = H.pn)) with
            | false =>
              simp -dsimp +decide (disch := first | omega | simp +decide only [kinpb26]) only [kinpb27, ↓brun_b, reduceIte, Nat.reduceAdd, Nat.reduceBEq, sBin_agg .eql 144 _ _ _ (ceq144 _ _ _ _), ek, ep]
              (repeat' first | exact flat144 _ _ _ _ | exact flat23 _ _ | exact flat135 _ _ _ _ | exact flat147 _ _ _ _ | refine And.intro ?_ ?_)
              have hE : frmEq F H = false := by simp only [frmEq, ht, hi, ek, ep, decide_true, Bool.true_and, Bool.false_and]
              rw [hE]
              refine SQ.answer (rs := [.tmp 4]) rfl rfl ?_
              simp -dsimp +decide (disch := first | omega | simp +decide only [kinpb26]) only [kinpb28, ↓brun_b, Nat.reduceAdd, rho]
            | true =>
              cases et : decide (F.toA = H.toA) with
              | false =>
                simp -dsimp +decide (disch := first | omega | simp +decide only [kinpb26]) only [kinpb27, ↓brun_b, reduceIte, Nat.reduceAdd, Nat.reduceBEq, sBin_agg .eql 144 _ _ _ (ceq144 _ _ _ _), hb, ek, ep, et]
                (repeat' first | exact flat144 _ _ _ _ | exact flat23 _ _ | exact flat135 _ _ _ _ | exact flat147 _ _ _ _ | refine And.intro ?_ ?_)
                have hE : frmEq F H = false := by simp only [frmEq, ht, hi, ek, ep, et, decide_true, Bool.true_and, Bool.false_and]
                rw [hE]
                refine SQ.answer (rs := [.tmp 4]) rfl rfl ?_
                simp -dsimp +decide (disch := first | omega | simp +decide only [kinpb26]) only [kinpb28, ↓brun_b, Nat.reduceAdd, rho]
              | true =>
                cases ea : decide (F.a.l = H.a.l) with
                | false =>
                  simp -dsimp +decide (disch := first | omega | simp +decide only [kinpb26]) only [kinpb27, ↓brun_b, reduceIte, Nat.reduceAdd, Nat.reduceBEq, sBin_agg .eql 23 _ _ _ (I16.cellsEq _ _), sBin_agg .eql 144 _ _ _ (ceq144 _ _ _ _), hb, ek, ep, et, ea]
                  (repeat' first | exact flat144 _ _ _ _ | exact flat23 _ _ | exact flat135 _ _ _ _ | exact flat147 _ _ _ _ | refine And.intro ?_ ?_)
                  have hE : frmEq F H = false := by simp only [frmEq, ht, hi, ek, ep, et, ea, decide_true, Bool.true_and, Bool.false_and]
                  rw [hE]
                  refine SQ.answer (rs := [.tmp 4]) rfl rfl ?_
                  simp -dsimp +decide (disch := first | omega | simp +decide only [kinpb26]) only [kinpb28, ↓brun_b, Nat.reduceAdd, rho]
                | true =>
                  cases eb : decide (F.b.l = H.b.l) with
                  | false =>
                    simp -dsimp +decide (disch := first | omega | simp +decide only [kinpb26]) only [kinpb27, ↓brun_b, reduceIte, Nat.reduceAdd, Nat.reduceBEq, sBin_agg .eql 23 _ _ _ (I16.cellsEq _ _), sBin_agg .eql 144 _ _ _ (ceq144 _ _ _ _), hb, ek, ep, et, ea, eb]
                    (repeat' first | exact flat144 _ _ _ _ | exact flat23 _ _ | exact flat135 _ _ _ _ | exact flat147 _ _ _ _ | refine And.intro ?_ ?_)
                    have hE : frmEq F H = false := by simp only [frmEq, ht, hi, ek, ep, et, ea, eb, decide_true, Bool.true_and, Bool.false_and]
                    rw [hE]
                    refine SQ.answer (rs := [.tmp 4]) rfl rfl ?_
                    simp -dsimp +decide (disch := first | omega | simp +decide only [kinpb26]) only [kinpb28, ↓brun_b, Nat.reduceAdd, rho]
                  | true =>
                    cases en : decide (F.n = H.n) with
                    | false =>
                      simp -dsimp +decide (disch := first | omega | simp +decide only [kinpb26]) only [kinpb27, ↓brun_b, reduceIte, Nat.reduceAdd, Nat.reduceBEq, sBin_agg .eql 23 _ _ _ (I16.cellsEq _ _), sBin_agg .eql 144 _ _ _ (ceq144 _ _ _ _), hb, ek, ep, et, ea, eb, en]
                      (repeat' first | exact flat144 _ _ _ _ | exact flat23 _ _ | exact flat135 _ _ _ _ | exact flat147 _ _ _ _ | refine And.intro ?_ ?_)
                      have hE : frmEq F H = false := by simp only [frmEq, ht, hi, ek, ep, et, ea, eb, en, decide_true, Bool.true_and, Bool.false_and]
                      rw [hE]
                      refine SQ.answer (rs := [.tmp 4]) rfl rfl ?_
                      simp -dsimp +decide (disch := first | omega | simp +decide only [kinpb26]) only [kinpb28, ↓brun_b, Nat.reduceAdd, rho]
                    | true =>
                      cases ef : (decide (F.fi = H.fi) && decide (F.fn = H.fn)) with
                      | false =>
                        simp -dsimp +decide (disch := first | omega | simp +decide only [kinpb26]) only [kinpb27, ↓brun_b, reduceIte, Nat.reduceAdd, Nat.reduceBEq, sBin_agg .eql 23 _ _ _ (I16.cellsEq _ _), sBin_agg .eql 135 _ _ _ (ceq135 _ _ _ _), sBin_agg .eql 144 _ _ _ (ceq144 _ _ _ _), hb, ek, ep, et, ea, eb, en, ef]
                        (repeat' first | exact flat144 _ _ _ _ | exact flat23 _ _ | exact flat135 _ _ _ _ | exact flat147 _ _ _ _ | refine And.intro ?_ ?_)
                        have hE : frmEq F H = false := by simp only [frmEq, ht, hi, ek, ep, et, ea, eb, en, ef, decide_true, Bool.true_and, Bool.false_and]
                        rw [hE]
                        refine SQ.answer (rs := [.tmp 4]) rfl rfl ?_
                        simp -dsimp +decide (disch := first | omega | simp +decide only [kinpb26]) only [kinpb28, ↓brun_b, Nat.reduceAdd, rho]
                      | true =>
                        cases eg : (decide (F.ti = H.ti) && decide (F.tn = H.tn)) with
                        | false =>
                          simp -dsimp +decide (disch := first | omega | simp +decide only [kinpb26]) only [kinpb27, ↓brun_b, reduceIte, Nat.reduceAdd, Nat.reduceBEq, sBin_agg .eql 23 _ _ _ (I16.cellsEq _ _), sBin_agg .eql 135 _ _ _ (ceq135 _ _ _ _), sBin_agg .eql 144 _ _ _ (ceq144 _ _ _ _), hb, ek, ep, et, ea, eb, en, ef, eg]
                          (repeat' first | exact flat144 _ _ _ _ | exact flat23 _ _ | exact flat135 _ _ _ _ | exact flat147 _ _ _ _ | refine And.intro ?_ ?_)
                          have hE : frmEq F H = false := by simp only [frmEq, ht, hi, ek, ep, et, ea, eb, en, ef, eg, decide_true, Bool.true_and, Bool.false_and]
                          rw [hE]
                          refine SQ.answer (rs := [.tmp 4]) rfl rfl ?_
                          simp -dsimp +decide (disch := first | omega | simp +decide only [kinpb26]) only [kinpb28, ↓brun_b, Nat.reduceAdd, rho]
                        | true =>
                          cases eo : decide (F.op = H.op) with
                          | false =>
                            simp -dsimp +decide (disch := first | omega | simp +decide only [kinpb26]) only [kinpb27, ↓brun_b, reduceIte, Nat.reduceAdd, Nat.reduceBEq, sBin_agg .eql 23 _ _ _ (I16.cellsEq _ _), sBin_agg .eql 135 _ _ _ (ceq135 _ _ _ _), sBin_agg .eql 144 _ _ _ (ceq144 _ _ _ _), hb, ek, ep, et, ea, eb, en, ef, eg, eo]
                            (repeat' first | exact flat144 _ _ _ _ | exact flat23 _ _ | exact flat135 _ _ _ _ | exact flat147 _ _ _ _ | refine And.intro ?_ ?_)
                            have hE : frmEq F H = false := by simp only [frmEq, ht, hi, ek, ep, et, ea, eb, en, ef, eg, eo, decide_true, Bool.true_and, Bool.false_and]
                            rw [hE]
                            refine SQ.answer (rs := [.tmp 4]) rfl rfl ?_
                            simp -dsimp +decide (disch := first | omega | simp +decide only [kinpb26]) only [kinpb28, ↓brun_b, Nat.reduceAdd, rho]
                          | true =>
                            cases el : decide (F.ttl = H.ttl) with
                            | false =>
                              simp -dsimp +decide (disch := first | omega | simp +decide only [kinpb26]) only [kinpb27, ↓brun_b, reduceIte, Nat.reduceAdd, Nat.reduceBEq, sBin_agg .eql 23 _ _ _ (I16.cellsEq _ _), sBin_agg .eql 135 _ _ _ (ceq135 _ _ _ _), sBin_agg .eql 144 _ _ _ (ceq144 _ _ _ _), hb, ek, ep, et, ea, eb, en, ef, eg, eo, el]
                              (repeat' first | exact flat144 _ _ _ _ | exact flat23 _ _ | exact flat135 _ _ _ _ | exact flat147 _ _ _ _ | refine And.intro ?_ ?_)
                              have hE : frmEq F H = false := by simp only [frmEq, ht, hi, ek, ep, et, ea, eb, en, ef, eg, eo, el, decide_true, Bool.true_and, Bool.false_and]
                              rw [hE]
                              refine SQ.answer (rs := [.tmp 4]) rfl rfl ?_
                              simp -dsimp +decide (disch := first | omega | simp +decide only [kinpb26]) only [kinpb28, ↓brun_b, Nat.reduceAdd, rho]
                            | true =>
                              cases ex : decide (F.tx = H.tx) with
                              | false =>
                                simp -dsimp +decide (disch := first | omega | simp +decide only [kinpb26]) only [kinpb27, ↓brun_b, reduceIte, Nat.reduceAdd, Nat.reduceBEq, sBin_agg .eql 23 _ _ _ (I16.cellsEq _ _), sBin_agg .eql 135 _ _ _ (ceq135 _ _ _ _), sBin_agg .eql 144 _ _ _ (ceq144 _ _ _ _), hb, ek, ep, et, ea, eb, en, ef, eg, eo, el, ex]
                                (repeat' first | exact flat144 _ _ _ _ | exact flat23 _ _ | exact flat135 _ _ _ _ | exact flat147 _ _ _ _ | refine And.intro ?_ ?_)
                                have hE : frmEq F H = false := by simp only [frmEq, ht, hi, ek, ep, et, ea, eb, en, ef, eg, eo, el, ex, decide_true, Bool.true_and, Bool.false_and]
                                rw [hE]
                                refine SQ.answer (rs := [.tmp 4]) rfl rfl ?_
                                simp -dsimp +decide (disch := first | omega | simp +decide only [kinpb26]) only [kinpb28, ↓brun_b, Nat.reduceAdd, rho]
                              | true =>
                                cases ey : decide (F.key.l = H.key.l) with
                                | false =>
                                  simp -dsimp +decide (disch := first | omega | simp +decide only [kinpb26]) only [kinpb27, ↓brun_b, reduceIte, Nat.reduceAdd, Nat.reduceBEq, sBin_agg .eql 23 _ _ _ (I16.cellsEq _ _), sBin_agg .eql 135 _ _ _ (ceq135 _ _ _ _), sBin_agg .eql 144 _ _ _ (ceq144 _ _ _ _), hb, ek, ep, et, ea, eb, en, ef, eg, eo, el, ex, ey]
                                  (repeat' first | exact flat144 _ _ _ _ | exact flat23 _ _ | exact flat135 _ _ _ _ | exact flat147 _ _ _ _ | refine And.intro ?_ ?_)
                                  have hE : frmEq F H = false := by simp only [frmEq, ht, hi, ek, ep, et, ea, eb, en, ef, eg, eo, el, ex, ey, decide_true, Bool.true_and, Bool.false_and]
                                  rw [hE]
                                  refine SQ.answer (rs := [.tmp 4]) rfl rfl ?_
                                  simp -dsimp +decide (disch := first | omega | simp +decide only [kinpb26]) only [kinpb28, ↓brun_b, Nat.reduceAdd, rho]
                                | true =>
                                  cases ev : (decide (F.vn = H.vn) && decide (F.vwho.l = H.vwho.l)) with
                                  | false =>
                                    simp -dsimp +decide (disch := first | omega | simp +decide only [kinpb26]) only [kinpb27, ↓brun_b, reduceIte, Nat.reduceAdd, Nat.reduceBEq, sBin_agg .eql 23 _ _ _ (I16.cellsEq _ _), sBin_agg .eql 135 _ _ _ (ceq135 _ _ _ _), sBin_agg .eql 144 _ _ _ (ceq144 _ _ _ _), sBin_agg .eql 147 _ _ _ (ceq147 _ _ _ _), hb, ek, ep, et, ea, eb, en, ef, eg, eo, el, ex, ey, ev]
                                    (repeat' first | exact flat144 _ _ _ _ | exact flat23 _ _ | exact flat135 _ _ _ _ | exact flat147 _ _ _ _ | refine And.intro ?_ ?_)
                                    have hE : frmEq F H = false := by simp only [frmEq, ht, hi, ek, ep, et, ea, eb, en, ef, eg, eo, el, ex, ey, ev, decide_true, Bool.true_and, Bool.false_and]
                                    rw [hE]
                                    refine SQ.answer (rs := [.tmp 4]) rfl rfl ?_
                                    simp -dsimp +decide (disch := first | omega | simp +decide only [kinpb26]) only [kinpb28, ↓brun_b, Nat.reduceAdd, rho]
                                  | true =>
                                    simp -dsimp +decide (disch := first | omega | simp +decide only [kinpb26]) only [kinpb27, ↓brun_b, reduceIte, Nat.reduceAdd, Nat.reduceBEq, sBin_agg .eql 23 _ _ _ (I16.cellsEq _ _), sBin_agg .eql 135 _ _ _ (ceq135 _ _ _ _), sBin_agg .eql 144 _ _ _ (ceq144 _ _ _ _), sBin_agg .eql 147 _ _ _ (ceq147 _ _ _ _), hb, ek, ep, et, ea, eb, en, ef, eg, eo, el, ex, ey, ev]
                                    (repeat' first | exact flat144 _ _ _ _ | exact flat23 _ _ | exact flat135 _ _ _ _ | exact flat147 _ _ _ _ | refine And.intro ?_ ?_)
                                    have hE : frmEq F H = decide (F.val = H.val) := by simp only [frmEq, ht, hi, ek, ep, et, ea, eb, en, ef, eg, eo, el, ex, ey, ev, decide_true, Bool.true_and]
                                    rw [hE]
                                    refine SQ.answer (rs := [.tmp 4]) rfl rfl ?_
                                    simp -dsimp +decide (disch := first | omega | simp +decide only [kinpb26]) only [kinpb28, ↓brun_b, Nat.reduceAdd, rho]
end Go.Proofs
