/- Contracts of functions that the laws reach, on abstract values, and what they need: no conditions but those that each theorem states. -/
import Derived.Test.YtheodenjjaoncaaSlY
import Derived.Test.YtheodenjjaoncaaBodP
import Derived.Test.YtheodenjjaoncaaFcP
import Derived.Test.YtheodenjjaoncaaDecP1
import Derived.Test.YtheodenjjaoncaaHelP
import Derived.Test.YtheodenjjaoncaaDecP2
set_option linter.unusedVariables false
set_option linter.unusedSimpArgs false
set_option linter.defProp false
namespace Go.Proofs
open Go Go.SL
set_option maxRecDepth 100000
theorem isl_flat (t : List I16) : (SV.rsl 16 (idrs t)).flat = true := by simp only [flat_rsl, idrs_flat]
def kinpc0 :=
  (And.intro (And.intro (And.intro @AD.flat @AK.flat) (And.intro @CP.flat (And.intro @DR.flat @GT.flat))) (And.intro (And.intro @PE.flat @PK.flat) (And.intro @PT.flat (And.intro @SU.flat @bsl_flat))))
def kinpb0 :=
  (And.intro (And.intro (And.intro kinpc0 @H1.flat) (And.intro @flatL_cons (And.intro @flatL_nil @flatR_brows))) (And.intro (And.intro @flat_agg @flat_rsl) (And.intro @flat_v (And.intro @idrs_flat @lrows_flat))))
theorem bodyF_1 (F : Frm) : (SV.agg (H1.c ⟨.v (.int .i64 F.fi), .v (.int .i64 F.fn), .v (.int .i64 F.ti), .v (.int .i64 F.tn), F.a⟩)).flat = true := by
  simp (decide := true) only [kinpb0, Bool.and_self]
theorem bodyF_2 (F : Frm) : (SV.agg ([.v (.int .i64 F.fi), .v (.int .i64 F.fn), .v (.int .i64 F.ti), .v (.int .i64 F.tn), .v (.int .i64 F.n), bsl F.tx])).flat = true := by
  simp (decide := true) only [kinpb0, Bool.and_self]
theorem bodyF_3 (F : Frm) : (SV.agg ([.v (.int .i64 F.fi), .v (.int .i64 F.fn), .v (.int .i64 F.ti), .v (.int .i64 F.tn), .v (.int .i64 F.n)])).flat = true := by
  simp (decide := true) only [kinpb0, Bool.and_self]
theorem bodyF_4 (F : Frm) : (SV.agg (SU.c ⟨F.who, .v (.int .i64 F.pn), F.a, F.b, .rsl 1 (lrows F.tr)⟩)).flat = true := by
  simp (decide := true) only [kinpb0, Bool.and_self]
theorem meth230 : Meth Try.prog 230 "Kind" 194 := fun v w => by kernel_rfl
def kinpc1 :=
  (And.intro (And.intro (And.intro @AD.c_length @AK.c_length) (And.intro @CP.c_length @DR.c_length)) (And.intro (And.intro @GT.c_length @PE.c_length) (And.intro @PK.c_length (And.intro @PT.c_length @SU.c_length))))
def kinpc2 :=
  (And.intro (And.intro @EC.c_length @FC.c_length) (And.intro @H1.c_length (And.intro @I16.c_length @brow_len)))
def kinpc3 :=
  (And.intro (And.intro (And.intro (And.intro @EC.flat @EC.one) (And.intro @FC.flat_eq @FC.one_eq)) (And.intro (And.intro @H1.one @I16.flat) (And.intro @I16.one @IC.flat))) (And.intro (And.intro (And.intro @IC.one @bdset_a) (And.intro @brow_flat @zD.eq_1)) (And.intro (And.intro @zE.eq_1 @zF.eq_1) (And.intro @zH.eq_1 @zK.eq_1))))
def kinpb1 :=
  (And.intro (And.intro (And.intro (And.intro kinpc1 kinpc0) (And.intro kinpc2 (And.intro kinpc3 @AD.one))) (And.intro (And.intro @AK.one @CP.one) (And.intro @DR.one (And.intro @GT.one @H1.flat)))) (And.intro (And.intro (And.intro @IC.c_length @PE.one) (And.intro @PK.one (And.intro @PT.one @SU.one))) (And.intro (And.intro @frm_flat (And.intro @idrs_flat @idrs_len)) (And.intro @lrow_len (And.intro @lrows_flat @lrows_length)))))
def kinpc4 :=
  (And.intro (And.intro (And.intro (And.intro (And.intro @EC.at_op (And.intro @EC.at_pn @EC.ent)) (And.intro (And.intro @EC.part @EC.set_all) (And.intro @EC.set_op @FC.part))) (And.intro (And.intro @FC.set_all (And.intro @H1.part @H1.part_a)) (And.intro (And.intro @H1.part_from @H1.part_to) (And.intro @H1.set_all @I16.part)))) (And.intro (And.intro (And.intro @Int.cast_ofNat_Int (And.intro @List.replicate_succ.{0} @List.replicate_zero.{0})) (And.intro (And.intro @SKren_row @after_mk) (And.intro @al151 @beq_self_eq_true.{0}))) (And.intro (And.intro @brow_cell (And.intro @brun_a @build151z)) (And.intro (And.intro @build214 @cellAt_succ) (And.intro @cellAt_zero @cond_false.{1}))))) (And.intro (And.intro (And.intro (And.intro @cond_true.{1} (And.intro @mergeL_done @mergeL_own)) (And.intro (And.intro @mergeL_row @mk210) (And.intro @mk214 @mk218))) (And.intro (And.intro @renL_cons (And.intro @renL_flat @renL_nil)) (And.intro (And.intro @ren_tup @sop_assert) (And.intro @splice_0 @splice_c)))) (And.intro (And.intro (And.intro @splice_s (And.intro @tab.a144 @tab.a2)) (And.intro (And.intro @tab.a23 @tab.a5) (And.intro @tab.f144x0 @tab.f144x1))) (And.intro (And.intro (And.intro @tab.s144 @tab.s2) (And.intro @tab.s23 @tab.s5)) (And.intro (And.intro @tab.u144 @tab.u2) (And.intro @tab.u23 @tab.u5))))))
def kinpb2 :=
  (And.intro (And.intro (And.intro (And.intro (And.intro (And.intro kinpc1 kinpc4) (And.intro kinpc2 @AD.at_n)) (And.intro (And.intro @AD.part @AD.part_a) (And.intro @AD.set_all (And.intro @AK.at_op @AK.at_pn)))) (And.intro (And.intro (And.intro @AK.at_toA @AK.at_tr) (And.intro @AK.part @AK.part_P)) (And.intro (And.intro @AK.part_a @AK.part_b) (And.intro @AK.set_all (And.intro @CP.at_pn @CP.at_toA))))) (And.intro (And.intro (And.intro (And.intro @CP.at_val @CP.part) (And.intro @CP.part_P @CP.part_it)) (And.intro (And.intro @CP.part_key @CP.set_all) (And.intro @DR.at_pn (And.intro @DR.part_P @DR.set_all)))) (And.intro (And.intro (And.intro @FC.ent @GT.at_pn) (And.intro @GT.at_toA (And.intro @GT.part @GT.part_P))) (And.intro (And.intro @GT.part_key @GT.part_ver) (And.intro @GT.set_all (And.intro @IC.at_val @IC.c_length)))))) (And.intro (And.intro (And.intro (And.intro (And.intro @IC.part_key @IC.part_ver) (And.intro @PE.at_is @PE.at_pn)) (And.intro (And.intro @PE.at_toA @PE.part) (And.intro @PE.part_P (And.intro @PE.set_all @PK.at_n)))) (And.intro (And.intro (And.intro @PK.at_op @PK.at_ttl) (And.intro @PK.at_tx (And.intro @PK.at_val @PK.part))) (And.intro (And.intro @PK.part_a @PK.part_b) (And.intro @PK.part_it (And.intro @PK.part_key @PK.set_all))))) (And.intro (And.intro (And.intro (And.intro @PT.at_pn @PT.at_toA) (And.intro @PT.part @PT.part_P)) (And.intro (And.intro @PT.set_all @SU.at_pn) (And.intro @SU.at_tr (And.intro @SU.part @SU.part_P)))) (And.intro (And.intro (And.intro @SU.part_a @SU.part_b) (And.intro @SU.set_all (And.intro @al149 @al230))) (And.intro (And.intro @al232 @hit230) (And.intro @tab.f230x0 (And.intro @tab.s230 @tab.u230)))))))
def kinpb3 :=
  (And.intro (And.intro (And.intro kinpc4 kinpc2) (And.intro @bwk_a (And.intro @eq_self.{1} @forall_const.{1}))) (And.intro (And.intro @implies_true.{0} @implies_true.{1}) (And.intro @tab.f230x0 (And.intro @tab.s230 @tab.u230))))
theorem kind_k5 (F : Frm) : Pure Try.prog 194 [.agg (DR.c ⟨F.who, .v (.int .i64 F.pn)⟩)] (.v (.int .i64 5)) := by
  refine SCall.mk (fn := Try.f194) (by kernel_rfl) rfl (Nat.le_of_ble_eq_true (by kernel_rfl)) ?_
  refine Sem.go (k := 1000) ?_
  simp -dsimp (decide := true) (maxSteps := 1000000) (disch := first | omega | simp (decide := true) only [kinpb1]) only [kinpb2, ↓brun_b, envOf, reduceIte, Nat.reduceEqDiff, Nat.reduceAdd, Nat.reduceSub, Nat.reduceMul, Nat.reduceBEq, Nat.reduceLeDiff, Nat.reduceLT, Int.reduceToNat, rho]
  refine SQ.answer (rs := [.tmp 2]) rfl rfl ?_
  simp -dsimp (decide := true) (maxSteps := 1000000) (disch := first | omega | simp (decide := true) only [kinpb1]) only [kinpb3, ↓brun_b, envOf, reduceIte, Nat.reduceEqDiff, Nat.reduceAdd, Nat.reduceSub, Nat.reduceMul, Nat.reduceBEq, Nat.reduceLeDiff, Nat.reduceLT, Int.reduceToNat, rho, frz1, ↓reduceIte]
theorem bodyF_5 (F : Frm) : (SV.agg (DR.c ⟨F.who, .v (.int .i64 F.pn)⟩)).flat = true := by
  simp (decide := true) only [kinpb0, Bool.and_self]
theorem bare_ent5 {fz : Nat → Option SB} {ρ : Nat → Nat} (F : Frm) : EntL fz ρ (bare 5 F).fc.c (FC.c { zF with kind := .v (.int .i64 5), who := F.who, pn := .v (.int .i64 F.pn) }) := by
  have e : bare 5 F = { kF 5 with who := F.who, pn := F.pn } := rfl
  rw [e]
  unfold kF zFrm Frm.fc zF
  rw [FC.ent]
  (repeat' apply And.intro) <;> first | exact Ent.self (flat_v _) | exact ent_nil _ | exact Ent.self (bsl_flat _) | exact Ent.self (lsl_flat _) | exact Ent.self (isl_flat _)
theorem plainB_5 (F : Frm) : Pure Try.prog 123 [.ifc 230 (.agg (DR.c ⟨F.who, .v (.int .i64 F.pn)⟩))] (.agg (bare 5 F).fc.c) :=
  SCall.tell [] (plain_k5 F.who F.pn) ⟨rfl, rfl, rfl, rfl, rfl, rfl, ⟨⟨_, rfl, bare_ent5 F⟩, trivial⟩, trivial⟩
theorem bodyF_6 (F : Frm) : (SV.agg (PT.c ⟨F.who, .v (.int .i64 F.pn), .v (.bool F.toA)⟩)).flat = true := by
  simp (decide := true) only [kinpb0, Bool.and_self]
theorem bodyF_7 (F : Frm) : (SV.agg (PE.c ⟨F.who, .v (.int .i64 F.pn), .v (.bool F.toA), .rsl 16 (idrs F.is)⟩)).flat = true := by
  simp (decide := true) only [kinpb0, Bool.and_self]
theorem bodyF_8 (F : Frm) : (SV.agg (AK.c ⟨F.a, F.b, .v (.int .i64 F.op), F.who, .v (.int .i64 F.pn), .v (.bool F.toA), .rsl 1 (lrows F.tr)⟩)).flat = true := by
  simp (decide := true) only [kinpb0, Bool.and_self]
theorem bodyF_9 (F : Frm) : (SV.agg (AD.c ⟨F.a, .v (.int .i64 F.n)⟩)).flat = true := by
  simp (decide := true) only [kinpb0, Bool.and_self]
theorem bodyF_10 (F : Frm) : (SV.agg (PK.c ⟨F.a, F.b, .v (.int .i64 F.n), .v (.int .i64 F.op), .v (.int .i64 F.ttl), F.key, .v (.int .i64 F.vn), F.vwho, bsl F.val, bsl F.tx⟩)).flat = true := by
  simp (decide := true) only [kinpb0, Bool.and_self]
theorem bodyF_11 (F : Frm) : (SV.agg (CP.c ⟨F.who, .v (.int .i64 F.pn), .v (.bool F.toA), F.key, .v (.int .i64 F.vn), F.vwho, bsl F.val⟩)).flat = true := by
  simp (decide := true) only [kinpb0, Bool.and_self]
theorem bodyF_12 (F : Frm) : (SV.agg (GT.c ⟨F.who, .v (.int .i64 F.pn), .v (.bool F.toA), F.key, .v (.int .i64 F.vn), F.vwho⟩)).flat = true := by
  simp (decide := true) only [kinpb0, Bool.and_self]
end Go.Proofs
namespace Go.Proofs
open Go Go.SL
set_option maxRecDepth 100000
theorem strEq (l m : List UInt8) : decide ((⟨l.toArray⟩ : ByteArray) = ⟨m.toArray⟩) = decide (l = m) := by
  congr 1
  refine propext ⟨fun h => ?_, fun h => by rw [h]⟩
  have := congrArg ByteArray.data h
  simpa using this
theorem I16.ext' {a b : I16} (h : a.l = b.l) : a = b := by
  cases a
  cases b
  simp only at h
  subst h
  rfl
def frmEq (F H : Frm) : Bool :=
  decide (F.tr = H.tr) && (decide (F.is.map I16.l = H.is.map I16.l) && (decide (F.kind = H.kind) && ((decide (F.who.l = H.who.l) && decide (F.pn = H.pn)) && (decide (F.toA = H.toA) && (decide (F.a.l = H.a.l) && (decide (F.b.l = H.b.l) && (decide (F.n = H.n) &&
    ((decide (F.fi = H.fi) && decide (F.fn = H.fn)) && ((decide (F.ti = H.ti) && decide (F.tn = H.tn)) && (decide (F.op = H.op) && (decide (F.ttl = H.ttl) && (decide (F.tx = H.tx) && (decide (F.key.l = H.key.l) && ((decide (F.vn = H.vn) && decide (F.vwho.l = H.vwho.l)) && decide (F.val = H.val)))))))))))))))
theorem getD_ext {α : Type} (d : α) : ∀ (l m : List α), l.length = m.length → (∀ i, i < l.length → l.getD i d = m.getD i d) → l = m
  | [], [], _, _ => rfl
  | [], _ :: _, h, _ => by simp at h
  | _ :: _, [], h, _ => by simp at h
  | x :: l, y :: m, h, hh => by
    have h0 : x = y := by simpa using hh 0 (by simp)
    have := getD_ext d l m (by simpa using h) fun i hi => by simpa using hh (i + 1) (by simpa using hi)
    rw [h0, this]
def kinpb4 :=
  (And.intro (And.intro (And.intro kinpc2 kinpc3) (And.intro @H1.flat @IC.c_length)) (And.intro (And.intro @idrs_flat @idrs_len) (And.intro @lrow_len (And.intro @lrows_flat @lrows_length))))
def kinpc5 :=
  (And.intro (And.intro (And.intro (And.intro @FC.at_is @FC.at_kind) (And.intro @FC.at_n (And.intro @FC.at_op @FC.at_pn))) (And.intro (And.intro @FC.at_toA @FC.at_tr) (And.intro @FC.at_ttl (And.intro @FC.at_tx @FC.at_val)))) (And.intro (And.intro (And.intro @FC.part_P @FC.part_a) (And.intro @FC.part_b (And.intro @FC.part_from @FC.part_it))) (And.intro (And.intro @FC.part_key @FC.part_to) (And.intro @FC.part_ver (And.intro @brows_length @strEq)))))
def kinpc6 :=
  (And.intro (And.intro (And.intro (And.intro (And.intro @tab.a135 @tab.a145) (And.intro @tab.a147 (And.intro @tab.a149 @tab.a151))) (And.intro (And.intro @tab.a3 @tab.a35) (And.intro @tab.a4 (And.intro @tab.a79 @tab.f149x0)))) (And.intro (And.intro (And.intro @tab.f149x1 @tab.f149x2) (And.intro @tab.f151x0 (And.intro @tab.f151x1 @tab.f151x10))) (And.intro (And.intro @tab.f151x11 (And.intro @tab.f151x12 @tab.f151x13)) (And.intro @tab.f151x2 (And.intro @tab.f151x3 @tab.f151x4))))) (And.intro (And.intro (And.intro (And.intro @tab.f151x5 @tab.f151x6) (And.intro @tab.f151x7 (And.intro @tab.f151x8 @tab.f151x9))) (And.intro (And.intro @tab.s135 (And.intro @tab.s145 @tab.s147)) (And.intro @tab.s149 (And.intro @tab.s151 @tab.s3)))) (And.intro (And.intro (And.intro @tab.s35 @tab.s4) (And.intro @tab.s79 (And.intro @tab.u135 @tab.u145))) (And.intro (And.intro @tab.u147 (And.intro @tab.u3 @tab.u35)) (And.intro @tab.u4 (And.intro @tab.u79 @tab.u9))))))
def kinpb5 :=
  (And.intro (And.intro (And.intro kinpc4 kinpc2) (And.intro kinpc5 (And.intro kinpc6 @IC.at_val))) (And.intro (And.intro @IC.c_length @IC.part_key) (And.intro @IC.part_ver (And.intro @idrs_len @lrows_length))))
def kinpb6 :=
  (And.intro (And.intro (And.intro kinpc4 kinpc2) (And.intro kinpc6 @bwk_a)) (And.intro (And.intro @eq_self.{1} @forall_const.{1}) (And.intro @implies_true.{0} @implies_true.{1})))
def kinpb7 :=
  (And.intro (And.intro (And.intro kinpc4 (And.intro kinpc2 kinpc5)) (And.intro (And.intro kinpc6 @IC.at_val) (And.intro @IC.c_length @IC.part_key))) (And.intro (And.intro (And.intro @IC.part_ver @bwk_a) (And.intro @eq_self.{1} @forall_const.{1})) (And.intro (And.intro @idrs_len @implies_true.{0}) (And.intro @implies_true.{1} @lrows_length))))
def kinpb8 :=
  (And.intro (And.intro (And.intro @List.length_cons.{0} @List.length_nil.{0}) (And.intro @Nat.zero_add @roL_in)) (And.intro (And.intro @roL_nil @roL_none) (And.intro @roL_row @ro_mk)))
def kinpb9 :=
  (And.intro (And.intro (And.intro kinpc4 (And.intro kinpc2 kinpc5)) (And.intro kinpc6 (And.intro @IC.at_val @IC.c_length))) (And.intro (And.intro @IC.part_key (And.intro @IC.part_ver @idrs_len)) (And.intro (And.intro @lrow_cell @lrow_len) (And.intro @lrows_at @lrows_length))))
set_option maxHeartbeats 16000000 in
theorem same143_calls (F H : Frm) (h1 : F.tr.length < 4611686018427387904) (h2 : F.is.length < 4611686018427387904) (h3 : H.tr.length < 4611686018427387904) (h4 : H.is.length < 4611686018427387904) : Pure Try.prog 143 [.agg F.fc.c, .agg H.fc.c] (.v (.bool (frmEq F H))) := by
  have hb : ∀ a b : Bool, (a == b) = decide (a = b) := fun a b => by cases a <;> cases b <;> rfl
  by_cases hl1 : F.tr.length = H.tr.length
  rotate_left
  · have d1 : decide ((F.tr.length : Int) = (H.tr.length : Int)) = false := decide_eq_false (by omega)
    have hE : frmEq F H = false := by
      have : ¬ F.tr = H.tr := fun h => hl1 (by rw [h])
      simp only [frmEq, this, decide_false, Bool.false_and]
    rw [hE]
    refine SCall.mk (fn := Try.f143) (by kernel_rfl) rfl (Nat.le_of_ble_eq_true (by kernel_rfl)) ?_
    refine Sem.go (k := 1000) ?_
    simp -dsimp (decide := true) (maxSteps := 1000000) (disch := first | omega | simp (decide := true) only [kinpb4]) only [kinpb5, ↓brun_b, envOf, reduceIte, Nat.reduceEqDiff, Nat.reduceAdd, Nat.reduceSub, Nat.reduceMul, Nat.reduceBEq, Nat.reduceLeDiff, Nat.reduceLT, Int.reduceToNat, rho, sBin_agg .eql 23 _ _ _ (I16.cellsEq _ _), sBin_agg .eql 135 _ _ _ (ceq135 _ _ _ _), sBin_agg .eql 144 _ _ _ (ceq144 _ _ _ _), sBin_agg .eql 147 _ _ _ (ceq147 _ _ _ _), sBin_agg .neq 23 _ _ _ (I16.cellsEq _ _), sBin_agg .neq 135 _ _ _ (ceq135 _ _ _ _), Frm.fc, d1]
    refine SQ.answer (rs := [.tmp 4]) rfl rfl ?_
    simp -dsimp (decide := true) (maxSteps := 1000000) (disch := first | omega | simp (decide := true) only [kinpb4]) only [kinpb6, ↓brun_b, envOf, reduceIte, Nat.reduceEqDiff, Nat.reduceAdd, Nat.reduceSub, Nat.reduceMul, Nat.reduceBEq, Nat.reduceLeDiff, Nat.reduceLT, Int.reduceToNat, rho, frz1, ↓reduceIte]
  have d1 : decide ((F.tr.length : Int) = (H.tr.length : Int)) = true := decide_eq_true (by omega)
  by_cases hl2 : F.is.length = H.is.length
  rotate_left
  · have d2 : decide ((F.is.length : Int) = (H.is.length : Int)) = false := decide_eq_false (by omega)
    have hE : frmEq F H = false := by
      have : ¬ F.is.map I16.l = H.is.map I16.l := fun h => hl2 (by simpa using congrArg List.length h)
      simp only [frmEq, this, decide_false, Bool.false_and, Bool.and_false]
    rw [hE]
    refine SCall.mk (fn := Try.f143) (by kernel_rfl) rfl (Nat.le_of_ble_eq_true (by kernel_rfl)) ?_
    refine Sem.go (k := 1000) ?_
    simp -dsimp (decide := true) (maxSteps := 1000000) (disch := first | omega | simp (decide := true) only [kinpb4]) only [kinpb5, ↓brun_b, envOf, reduceIte, Nat.reduceEqDiff, Nat.reduceAdd, Nat.reduceSub, Nat.reduceMul, Nat.reduceBEq, Nat.reduceLeDiff, Nat.reduceLT, Int.reduceToNat, rho, sBin_agg .eql 23 _ _ _ (I16.cellsEq _ _), sBin_agg .eql 135 _ _ _ (ceq135 _ _ _ _), sBin_agg .eql 144 _ _ _ (ceq144 _ _ _ _), sBin_agg .eql 147 _ _ _ (ceq147 _ _ _ _), sBin_agg .neq 23 _ _ _ (I16.cellsEq _ _), sBin_agg .neq 135 _ _ _ (ceq135 _ _ _ _), Frm.fc, d1, d2]
    refine SQ.answer (rs := [.tmp 4]) rfl rfl ?_
    simp -dsimp (decide := true) (maxSteps := 1000000) (disch := first | omega | simp (decide := true) only [kinpb4]) only [kinpb6, ↓brun_b, envOf, reduceIte, Nat.reduceEqDiff, Nat.reduceAdd, Nat.reduceSub, Nat.reduceMul, Nat.reduceBEq, Nat.reduceLeDiff, Nat.reduceLT, Int.reduceToNat, rho, frz1, ↓reduceIte]
  have d2 : decide ((F.is.length : Int) = (H.is.length : Int)) = true := decide_eq_true (by omega)
  refine SCall.mk (fn := Try.f143) (by kernel_rfl) rfl (Nat.le_of_ble_eq_true (by kernel_rfl)) ?_
  refine Sem.go (k := 1000) ?_
  simp -dsimp (decide := true) (maxSteps := 1000000) (disch := first | omega | simp (decide := true) only [kinpb4]) only [kinpb5, ↓brun_b, envOf, reduceIte, Nat.reduceEqDiff, Nat.reduceAdd, Nat.reduceSub, Nat.reduceMul, Nat.reduceBEq, Nat.reduceLeDiff, Nat.reduceLT, Int.reduceToNat, rho, sBin_agg .eql 23 _ _ _ (I16.cellsEq _ _), sBin_agg .eql 135 _ _ _ (ceq135 _ _ _ _), sBin_agg .eql 144 _ _ _ (ceq144 _ _ _ _), sBin_agg .eql 147 _ _ _ (ceq147 _ _ _ _), sBin_agg .neq 23 _ _ _ (I16.cellsEq _ _), sBin_agg .neq 135 _ _ _ (ceq135 _ _ _ _), Frm.fc, d1, d2]
  refine Sem.loop (ι := {k : Nat // k ≤ F.tr.length ∧ ∀ i, i < k → F.tr.getD i 0 = H.tr.getD i 0}) (fun k => ⟨165, 0, [(2, .ptr 0 0 0), (3, .ptr 1 0 0), (4, .v (.bool false)), (25, .v (.int .i64 (F.tr.length : Int))), (26, .v (.int .i64 (k.1 : Int)))], [some (.row ⟨95, 1, true, 151, fun _ => F.fc.c⟩), some (.row ⟨95, 1, true, 151, fun _ => H.fc.c⟩)]⟩) (fun k => F.tr.length - k.1) ⟨0, by omega, fun i hi => by omega⟩ [0, 1] ?_ ?_
  · (refine Wk.ofC ?_; simp -dsimp (decide := true) (maxSteps := 1000000) (disch := first | omega | simp (decide := true) only [kinpb4]) only [kinpb7, ↓brun_b, envOf, reduceIte, Nat.reduceEqDiff, Nat.reduceAdd, Nat.reduceSub, Nat.reduceMul, Nat.reduceBEq, Nat.reduceLeDiff, Nat.reduceLT, Int.reduceToNat, rho, sBin_agg .eql 23 _ _ _ (I16.cellsEq _ _), sBin_agg .eql 135 _ _ _ (ceq135 _ _ _ _), sBin_agg .eql 144 _ _ _ (ceq144 _ _ _ _), sBin_agg .eql 147 _ _ _ (ceq147 _ _ _ _), sBin_agg .neq 23 _ _ _ (I16.cellsEq _ _), sBin_agg .neq 135 _ _ _ (ceq135 _ _ _ _), Frm.fc, frz1, ↓reduceIte])
  · rintro ⟨k, hk, hall⟩
    refine Sem.go (k := 1000) ?_
    simp -dsimp (decide := true) (maxSteps := 1000000) (disch := first | omega | simp (decide := true) only [kinpb4]) only [kinpb5, ↓brun_b, envOf, reduceIte, Nat.reduceEqDiff, Nat.reduceAdd, Nat.reduceSub, Nat.reduceMul, Nat.reduceBEq, Nat.reduceLeDiff, Nat.reduceLT, Int.reduceToNat, rho, sBin_agg .eql 23 _ _ _ (I16.cellsEq _ _), sBin_agg .eql 135 _ _ _ (ceq135 _ _ _ _), sBin_agg .eql 144 _ _ _ (ceq144 _ _ _ _), sBin_agg .eql 147 _ _ _ (ceq147 _ _ _ _), sBin_agg .neq 23 _ _ _ (I16.cellsEq _ _), sBin_agg .neq 135 _ _ _ (ceq135 _ _ _ _), Frm.fc]
    refine SCond.split (fun h5 => ?_) (fun h5 => ?_)
    · simp only [decide_eq_true_eq] at h5
      have hk' : k < F.tr.length := by omega
      have hkG : k < H.tr.length := by omega
      have hw : IntKind.i64.wrap ((k : Int) + 1) = ((k + 1 : Nat) : Int) := by rw [wrap_i64 _ (by omega)]; rfl
      simp -dsimp (decide := true) (maxSteps := 1000000) (disch := first | omega | simp (decide := true) only [kinpb4]) only [kinpb5, ↓brun_b, envOf, reduceIte, Nat.reduceEqDiff, Nat.reduceAdd, Nat.reduceSub, Nat.reduceMul, Nat.reduceBEq, Nat.reduceLeDiff, Nat.reduceLT, Int.reduceToNat, rho, sBin_agg .eql 23 _ _ _ (I16.cellsEq _ _), sBin_agg .eql 135 _ _ _ (ceq135 _ _ _ _), sBin_agg .eql 144 _ _ _ (ceq144 _ _ _ _), sBin_agg .eql 147 _ _ _ (ceq147 _ _ _ _), sBin_agg .neq 23 _ _ _ (I16.cellsEq _ _), sBin_agg .neq 135 _ _ _ (ceq135 _ _ _ _), Frm.fc]
      refine Sem.draw' (by kernel_rfl) (.one 0 (.one 1 (.one 2 (.one 3 (.one 4 (.one 5 (.one 6 (.one 7 (.one 8 (.one 9 (.one 10 .done))))))))))) [] (by kernel_rfl) (fun G ff hG hf => ?_)
      simp (decide := true) only [kinpb8, Nat.reduceAdd] at hG ⊢
      simp -dsimp (decide := true) (maxSteps := 1000000) (disch := first | omega | simp (decide := true) only [kinpb4]) only [kinpb9, ↓brun_b, envOf, reduceIte, Nat.reduceEqDiff, Nat.reduceAdd, Nat.reduceSub, Nat.reduceMul, Nat.reduceBEq, Nat.reduceLeDiff, Nat.reduceLT, Int.reduceToNat, rho, sBin_agg .eql 23 _ _ _ (I16.cellsEq _ _), sBin_agg .eql 135 _ _ _ (ceq135 _ _ _ _), sBin_agg .eql 144 _ _ _ (ceq144 _ _ _ _), sBin_agg .eql 147 _ _ _ (ceq147 _ _ _ _), sBin_agg .neq 23 _ _ _ (I16.cellsEq _ _), sBin_agg .neq 135 _ _ _ (ceq135 _ _ _ _), Frm.fc, hG]
      refine And.intro (by omega) (And.intro (by omega) ?_)
      cases hd : decide (F.tr.getD k 0 = H.tr.getD k 0) with
      | true =>
        refine hf _ (Sem.go (k := 1000) ?_)
        simp (decide := true) only [back_mk, backL_in, backL_row, backL_none, backL_nil, Nat.zero_add, Nat.reduceAdd]
        simp -dsimp (decide := true) (maxSteps := 1000000) (disch := first | omega | simp (decide := true) only [kinpb4]) only [kinpb5, ↓brun_b, envOf, reduceIte, Nat.reduceEqDiff, Nat.reduceAdd, Nat.reduceSub, Nat.reduceMul, Nat.reduceBEq, Nat.reduceLeDiff, Nat.reduceLT, Int.reduceToNat, rho, sBin_agg .eql 23 _ _ _ (I16.cellsEq _ _), sBin_agg .eql 135 _ _ _ (ceq135 _ _ _ _), sBin_agg .eql 144 _ _ _ (ceq144 _ _ _ _), sBin_agg .eql 147 _ _ _ (ceq147 _ _ _ _), sBin_agg .neq 23 _ _ _ (I16.cellsEq _ _), sBin_agg .neq 135 _ _ _ (ceq135 _ _ _ _), Frm.fc, hd, hw]
        have he : F.tr.getD k 0 = H.tr.getD k 0 := of_decide_eq_true hd
        refine ⟨⟨k + 1, by omega, fun i hi => ?_⟩, [0, 1], ?_, by show F.tr.length - (k + 1) < F.tr.length - k; omega⟩
        · by_cases e : i = k
          · rw [e]; exact he
          · exact hall i (by omega)
        · (refine Wk.ofC ?_; simp -dsimp (decide := true) (maxSteps := 1000000) (disch := first | omega | simp (decide := true) only [kinpb4]) only [kinpb7, ↓brun_b, envOf, reduceIte, Nat.reduceEqDiff, Nat.reduceAdd, Nat.reduceSub, Nat.reduceMul, Nat.reduceBEq, Nat.reduceLeDiff, Nat.reduceLT, Int.reduceToNat, rho, sBin_agg .eql 23 _ _ _ (I16.cellsEq _ _), sBin_agg .eql 135 _ _ _ (ceq135 _ _ _ _), sBin_agg .eql 144 _ _ _ (ceq144 _ _ _ _), sBin_agg .eql 147 _ _ _ (ceq147 _ _ _ _), sBin_agg .neq 23 _ _ _ (I16.cellsEq _ _), sBin_agg .neq 135 _ _ _ (ceq135 _ _ _ _), Frm.fc, frz1, ↓reduceIte])
      | false =>
        refine hf _ (Sem.go (k := 1000) ?_)
        simp (decide := true) only [back_mk, backL_in, backL_row, backL_none, backL_nil, Nat.zero_add, Nat.reduceAdd]
        simp -dsimp (decide := true) (maxSteps := 1000000) (disch := first | omega | simp (decide := true) only [kinpb4]) only [kinpb5, ↓brun_b, envOf, reduceIte, Nat.reduceEqDiff, Nat.reduceAdd, Nat.reduceSub, Nat.reduceMul, Nat.reduceBEq, Nat.reduceLeDiff, Nat.reduceLT, Int.reduceToNat, rho, sBin_agg .eql 23 _ _ _ (I16.cellsEq _ _), sBin_agg .eql 135 _ _ _ (ceq135 _ _ _ _), sBin_agg .eql 144 _ _ _ (ceq144 _ _ _ _), sBin_agg .eql 147 _ _ _ (ceq147 _ _ _ _), sBin_agg .neq 23 _ _ _ (I16.cellsEq _ _), sBin_agg .neq 135 _ _ _ (ceq135 _ _ _ _), Frm.fc, hd]
        have hE : frmEq F H = false := by
          have : ¬ F.tr = H.tr := fun h => of_decide_eq_false hd (by rw [h])
          simp only [frmEq, this, decide_false, Bool.false_and]
        rw [hE]
        refine SQ.answer (rs := [.tmp 4]) rfl rfl ?_
        simp -dsimp (decide := true) (maxSteps := 1000000) (disch := first | omega | simp (decide := true) only [kinpb4]) only [kinpb6, ↓brun_b, envOf, reduceIte, Nat.reduceEqDiff, Nat.reduceAdd, Nat.reduceSub, Nat.reduceMul, Nat.reduceBEq, Nat.reduceLeDiff, Nat.reduceLT, Int.reduceToNat, rho, frz1, ↓reduceIte]
    · simp only [decide_eq_false_iff_not] at h5
      obtain rfl : k = F.tr.length := by omega
      have ht : F.tr = H.tr := getD_ext 0 _ _ hl1 hall
      simp -dsimp (decide := true) (maxSteps := 1000000) (disch := first | omega | simp (decide := true) only [kinpb4]) only [kinpb5, ↓brun_b, envOf, reduceIte, Nat.reduceEqDiff, Nat.reduceAdd, Nat.reduceSub, Nat.reduceMul, Nat.reduceBEq, Nat.reduceLeDiff, Nat.reduceLT, Int.reduceToNat, rho, sBin_agg .eql 23 _ _ _ (I16.cellsEq _ _), sBin_agg .eql 135 _ _ _ (ceq135 _ _ _ _), sBin_agg .eql 144 _ _ _ (ceq144 _ _ _ _), sBin_agg .eql 147 _ _ _ (ceq147 _ _ _ _), sBin_agg .neq 23 _ _ _ (I16.cellsEq _ _), sBin_agg .neq 135 _ _ _ (ceq135 _ _ _ _), Frm.fc]
      refine Sem.loop (ι := {k : Nat // k ≤ F.is.length ∧ ∀ i, i < k → F.is.getD i I16.zero = H.is.getD i I16.zero}) (fun k => ⟨165, 0, [(2, .ptr 0 0 0), (3, .ptr 1 0 0), (4, .v (.bool false)), (43, .v (.int .i64 (F.is.length : Int))), (44, .v (.int .i64 (k.1 : Int)))], [some (.row ⟨95, 1, true, 151, fun _ => F.fc.c⟩), some (.row ⟨95, 1, true, 151, fun _ => H.fc.c⟩)]⟩) (fun k => F.is.length - k.1) ⟨0, by omega, fun i hi => by omega⟩ [0, 1] ?_ ?_
      · (refine Wk.ofC ?_; simp -dsimp (decide := true) (maxSteps := 1000000) (disch := first | omega | simp (decide := true) only [kinpb4]) only [kinpb7, ↓brun_b, envOf, reduceIte, Nat.reduceEqDiff, Nat.reduceAdd, Nat.reduceSub, Nat.reduceMul, Nat.reduceBEq, Nat.reduceLeDiff, Nat.reduceLT, Int.reduceToNat, rho, sBin_agg .eql 23 _ _ _ (I16.cellsEq _ _), sBin_agg .eql 135 _ _ _ (ceq135 _ _ _ _), sBin_agg .eql 144 _ _ _ (ceq144 _ _ _ _), sBin_agg .eql 147 _ _ _ (ceq147 _ _ _ _), sBin_agg .neq 23 _ _ _ (I16.cellsEq _ _), sBin_agg .neq 135 _ _ _ (ceq135 _ _ _ _), Frm.fc, frz1, ↓reduceIte])
      · rintro ⟨k, hk, hall⟩
        refine Sem.go (k := 1000) ?_
        simp -dsimp (decide := true) (maxSteps := 1000000) (disch := first | omega | simp (decide := true) only [kinpb4]) only [kinpb5, ↓brun_b, envOf, reduceIte, Nat.reduceEqDiff, Nat.reduceAdd, Nat.reduceSub, Nat.reduceMul, Nat.reduceBEq, Nat.reduceLeDiff, Nat.reduceLT, Int.reduceToNat, rho, sBin_agg .eql 23 _ _ _ (I16.cellsEq _ _), sBin_agg .eql 135 _ _ _ (ceq135 _ _ _ _), sBin_agg .eql 144 _ _ _ (ceq144 _ _ _ _), sBin_agg .eql 147 _ _ _ (ceq147 _ _ _ _), sBin_agg .neq 23 _ _ _ (I16.cellsEq _ _), sBin_agg .neq 135 _ _ _ (ceq135 _ _ _ _), Frm.fc]
        refine SCond.split (fun h6 => ?_) (fun h6 => ?_)
        · simp only [decide_eq_true_eq] at h6
          have hk' : k < F.is.length := by omega
          have hkG : k < H.is.length := by omega
          have hw : IntKind.i64.wrap ((k : Int) + 1) = ((k + 1 : Nat) : Int) := by rw [wrap_i64 _ (by omega)]; rfl
          simp -dsimp (decide := true) (maxSteps := 1000000) (disch := first | omega | simp (decide := true) only [kinpb4]) only [kinpb5, ↓brun_b, envOf, reduceIte, Nat.reduceEqDiff, Nat.reduceAdd, Nat.reduceSub, Nat.reduceMul, Nat.reduceBEq, Nat.reduceLeDiff, Nat.reduceLT, Int.reduceToNat, rho, sBin_agg .eql 23 _ _ _ (I16.cellsEq _ _), sBin_agg .eql 135 _ _ _ (ceq135 _ _ _ _), sBin_agg .eql 144 _ _ _ (ceq144 _ _ _ _), sBin_agg .eql 147 _ _ _ (ceq147 _ _ _ _), sBin_agg .neq 23 _ _ _ (I16.cellsEq _ _), sBin_agg .neq 135 _ _ _ (ceq135 _ _ _ _), Frm.fc]
          refine Sem.draw' (by kernel_rfl) (.one 0 (.one 1 (.one 2 (.one 3 (.one 4 (.one 5 (.one 6 (.one 7 (.one 8 (.one 9 (.one 10 .done))))))))))) [] (by kernel_rfl) (fun G ff hG hf => ?_)
          simp (decide := true) only [kinpb8, Nat.reduceAdd] at hG ⊢
          simp -dsimp (decide := true) (maxSteps := 1000000) (disch := first | omega | simp (decide := true) only [kinpb4]) only [kinpb5, ↓brun_b, envOf, reduceIte, Nat.reduceEqDiff, Nat.reduceAdd, Nat.reduceSub, Nat.reduceMul, Nat.reduceBEq, Nat.reduceLeDiff, Nat.reduceLT, Int.reduceToNat, rho, sBin_agg .eql 23 _ _ _ (I16.cellsEq _ _), sBin_agg .eql 135 _ _ _ (ceq135 _ _ _ _), sBin_agg .eql 144 _ _ _ (ceq144 _ _ _ _), sBin_agg .eql 147 _ _ _ (ceq147 _ _ _ _), sBin_agg .neq 23 _ _ _ (I16.cellsEq _ _), sBin_agg .neq 135 _ _ _ (ceq135 _ _ _ _), Frm.fc, hG, idrs_at _ _ hk' I16.zero, idrs_at _ _ hkG I16.zero]
          refine And.intro (by omega) (And.intro (by omega) (And.intro (flat23 _ _) ?_))
          cases hd : decide ((F.is.getD k I16.zero).l = (H.is.getD k I16.zero).l) with
          | true =>
            refine hf _ (Sem.go (k := 1000) ?_)
            simp (decide := true) only [back_mk, backL_in, backL_row, backL_none, backL_nil, Nat.zero_add, Nat.reduceAdd]
            simp -dsimp (decide := true) (maxSteps := 1000000) (disch := first | omega | simp (decide := true) only [kinpb4]) only [kinpb5, ↓brun_b, envOf, reduceIte, Nat.reduceEqDiff, Nat.reduceAdd, Nat.reduceSub, Nat.reduceMul, Nat.reduceBEq, Nat.reduceLeDiff, Nat.reduceLT, Int.reduceToNat, rho, sBin_agg .eql 23 _ _ _ (I16.cellsEq _ _), sBin_agg .eql 135 _ _ _ (ceq135 _ _ _ _), sBin_agg .eql 144 _ _ _ (ceq144 _ _ _ _), sBin_agg .eql 147 _ _ _ (ceq147 _ _ _ _), sBin_agg .neq 23 _ _ _ (I16.cellsEq _ _), sBin_agg .neq 135 _ _ _ (ceq135 _ _ _ _), Frm.fc, hd, hw]
            have he : F.is.getD k I16.zero = H.is.getD k I16.zero := I16.ext' (of_decide_eq_true hd)
            refine ⟨⟨k + 1, by omega, fun i hi => ?_⟩, [0, 1], ?_, by show F.is.length - (k + 1) < F.is.length - k; omega⟩
            · by_cases e : i = k
              · rw [e]; exact he
              · exact hall i (by omega)
            · (refine Wk.ofC ?_; simp -dsimp (decide := true) (maxSteps := 1000000) (disch := first | omega | simp (decide := true) only [kinpb4]) only [kinpb7, ↓brun_b, envOf, reduceIte, Nat.reduceEqDiff, Nat.reduceAdd, Nat.reduceSub, Nat.reduceMul, Nat.reduceBEq, Nat.reduceLeDiff, Nat.reduceLT, Int.reduceToNat, rho, sBin_agg .eql 23 _ _ _ (I16.cellsEq _ _), sBin_agg .eql 135 _ _ _ (ceq135 _ _ _ _), sBin_agg .eql 144 _ _ _ (ceq144 _ _ _ _), sBin_agg .eql 147 _ _ _ (ceq147 _ _ _ _), sBin_agg .neq 23 _ _ _ (I16.cellsEq _ _), sBin_agg .neq 135 _ _ _ (ceq135 _ _ _ _), Frm.fc, frz1, ↓reduceIte])
          | false =>
            refine hf _ (Sem.go (k := 1000) ?_)
            simp (decide := true) only [back_mk, backL_in, backL_row, backL_none, backL_nil, Nat.zero_add, Nat.reduceAdd]
            simp -dsimp (decide := true) (maxSteps := 1000000) (disch := first | omega | simp (decide := true) only [kinpb4]) only [kinpb5, ↓brun_b, envOf, reduceIte, Nat.reduceEqDiff, Nat.reduceAdd, Nat.reduceSub, Nat.reduceMul, Nat.reduceBEq, Nat.reduceLeDiff, Nat.reduceLT, Int.reduceToNat, rho, sBin_agg .eql 23 _ _ _ (I16.cellsEq _ _), sBin_agg .eql 135 _ _ _ (ceq135 _ _ _ _), sBin_agg .eql 144 _ _ _ (ceq144 _ _ _ _), sBin_agg .eql 147 _ _ _ (ceq147 _ _ _ _), sBin_agg .neq 23 _ _ _ (I16.cellsEq _ _), sBin_agg .neq 135 _ _ _ (ceq135 _ _ _ _), Frm.fc, hd]
            have hE : frmEq F H = false := by
              have : ¬ F.is.map I16.l = H.is.map I16.l := fun h => of_decide_eq_false hd (by
                have h7 : (F.is.map I16.l).getD k [] = (H.is.map I16.l).getD k [] := by rw [h]
                simpa [List.getD_eq_getElem?_getD, List.getElem?_eq_getElem hk', List.getElem?_eq_getElem hkG] using h7)
              simp only [frmEq, this, decide_false, Bool.false_and, Bool.and_false]
            rw [hE]
            refine SQ.answer (rs := [.tmp 4]) rfl rfl ?_
            simp -dsimp (decide := true) (maxSteps := 1000000) (disch := first | omega | simp (decide := true) only [kinpb4]) only [kinpb6, ↓brun_b, envOf, reduceIte, Nat.reduceEqDiff, Nat.reduceAdd, Nat.reduceSub, Nat.reduceMul, Nat.reduceBEq, Nat.reduceLeDiff, Nat.reduceLT, Int.reduceToNat, rho, frz1, ↓reduceIte]
        · simp only [decide_eq_false_iff_not] at h6
          obtain rfl : k = F.is.length := by omega
          have hi : F.is = H.is := getD_ext I16.zero _ _ hl2 hall
          simp only [lapp_cons, lapp_nil]
          cases ek : decide (F.kind = H.kind) with
          | false =>
            simp -dsimp (decide := true) (maxSteps := 1000000) (disch := first | omega | simp (decide := true) only [kinpb4]) only [kinpb5, ↓brun_b, envOf, reduceIte, Nat.reduceEqDiff, Nat.reduceAdd, Nat.reduceSub, Nat.reduceMul, Nat.reduceBEq, Nat.reduceLeDiff, Nat.reduceLT, Int.reduceToNat, rho, sBin_agg .eql 23 _ _ _ (I16.cellsEq _ _), sBin_agg .eql 135 _ _ _ (ceq135 _ _ _ _), sBin_agg .eql 144 _ _ _ (ceq144 _ _ _ _), sBin_agg .eql 147 _ _ _ (ceq147 _ _ _ _), sBin_agg .neq 23 _ _ _ (I16.cellsEq _ _), sBin_agg .neq 135 _ _ _ (ceq135 _ _ _ _), Frm.fc, hb, ek]
            (repeat' first | exact flat144 _ _ _ _ | exact flat23 _ _ | exact flat135 _ _ _ _ | exact flat147 _ _ _ _ | refine And.intro ?_ ?_)
            have hE : frmEq F H = false := by simp only [frmEq, ht, hi, ek, decide_true, Bool.true_and, Bool.false_and, Bool.and_true]
            rw [hE]
            refine SQ.answer (rs := [.tmp 4]) rfl rfl ?_
            simp -dsimp (decide := true) (maxSteps := 1000000) (disch := first | omega | simp (decide := true) only [kinpb4]) only [kinpb6, ↓brun_b, envOf, reduceIte, Nat.reduceEqDiff, Nat.reduceAdd, Nat.reduceSub, Nat.reduceMul, Nat.reduceBEq, Nat.reduceLeDiff, Nat.reduceLT, Int.reduceToNat, rho, frz1, ↓reduceIte]
          | true =>
            cases ep : (decide (F.who.l = H.who.l) && decide (F.pn = H.pn)) with
            | false =>
              simp -dsimp (decide := true) (maxSteps := 1000000) (disch := first | omega | simp (decide := true) only [kinpb4]) only [kinpb5, ↓brun_b, envOf, reduceIte, Nat.reduceEqDiff, Nat.reduceAdd, Nat.reduceSub, Nat.reduceMul, Nat.reduceBEq, Nat.reduceLeDiff, Nat.reduceLT, Int.reduceToNat, rho, sBin_agg .eql 23 _ _ _ (I16.cellsEq _ _), sBin_agg .eql 135 _ _ _ (ceq135 _ _ _ _), sBin_agg .eql 144 _ _ _ (ceq144 _ _ _ _), sBin_agg .eql 147 _ _ _ (ceq147 _ _ _ _), sBin_agg .neq 23 _ _ _ (I16.cellsEq _ _), sBin_agg .neq 135 _ _ _ (ceq135 _ _ _ _), Frm.fc, hb, ek, ep]
              (repeat' first | exact flat144 _ _ _ _ | exact flat23 _ _ | exact flat135 _ _ _ _ | exact flat147 _ _ _ _ | refine And.intro ?_ ?_)
              have hE : frmEq F H = false := by simp only [frmEq, ht, hi, ek, ep, decide_true, Bool.true_and, Bool.false_and, Bool.and_true]
              rw [hE]
              refine SQ.answer (rs := [.tmp 4]) rfl rfl ?_
              simp -dsimp (decide := true) (maxSteps := 1000000) (disch := first | omega | simp (decide := true) only [kinpb4]) only [kinpb6, ↓brun_b, envOf, reduceIte, Nat.reduceEqDiff, Nat.reduceAdd, Nat.reduceSub, Nat.reduceMul, Nat.reduceBEq, Nat.reduceLeDiff, Nat.reduceLT, Int.reduceToNat, rho, frz1, ↓reduceIte]
            | true =>
              cases et : decide (F.toA = H.toA) with
              | false =>
                simp -dsimp (decide := true) (maxSteps := 1000000) (disch := first | omega | simp (decide := true) only [kinpb4]) only [kinpb5, ↓brun_b, envOf, reduceIte, Nat.reduceEqDiff, Nat.reduceAdd, Nat.reduceSub, Nat.reduceMul, Nat.reduceBEq, Nat.reduceLeDiff, Nat.reduceLT, Int.reduceToNat, rho, sBin_agg .eql 23 _ _ _ (I16.cellsEq _ _), sBin_agg .eql 135 _ _ _ (ceq135 _ _ _ _), sBin_agg .eql 144 _ _ _ (ceq144 _ _ _ _), sBin_agg .eql 147 _ _ _ (ceq147 _ _ _ _), sBin_agg .neq 23 _ _ _ (I16.cellsEq _ _), sBin_agg .neq 135 _ _ _ (ceq135 _ _ _ _), Frm.fc, hb, ek, ep, et]
                (repeat' first | exact flat144 _ _ _ _ | exact flat23 _ _ | exact flat135 _ _ _ _ | exact flat147 _ _ _ _ | refine And.intro ?_ ?_)
                have hE : frmEq F H = false := by simp only [frmEq, ht, hi, ek, ep, et, decide_true, Bool.true_and, Bool.false_and, Bool.and_true]
                rw [hE]
                refine SQ.answer (rs := [.tmp 4]) rfl rfl ?_
                simp -dsimp (decide := true) (maxSteps := 1000000) (disch := first | omega | simp (decide := true) only [kinpb4]) only [kinpb6, ↓brun_b, envOf, reduceIte, Nat.reduceEqDiff, Nat.reduceAdd, Nat.reduceSub, Nat.reduceMul, Nat.reduceBEq, Nat.reduceLeDiff, Nat.reduceLT, Int.reduceToNat, rho, frz1, ↓reduceIte]
              | true =>
                cases ea : decide (F.a.l = H.a.l) with
                | false =>
                  simp -dsimp (decide := true) (maxSteps := 1000000) (disch := first | omega | simp (decide := true) only [kinpb4]) only [kinpb5, ↓brun_b, envOf, reduceIte, Nat.reduceEqDiff, Nat.reduceAdd, Nat.reduceSub, Nat.reduceMul, Nat.reduceBEq, Nat.reduceLeDiff, Nat.reduceLT, Int.reduceToNat, rho, sBin_agg .eql 23 _ _ _ (I16.cellsEq _ _), sBin_agg .eql 135 _ _ _ (ceq135 _ _ _ _), sBin_agg .eql 144 _ _ _ (ceq144 _ _ _ _), sBin_agg .eql 147 _ _ _ (ceq147 _ _ _ _), sBin_agg .neq 23 _ _ _ (I16.cellsEq _ _), sBin_agg .neq 135 _ _ _ (ceq135 _ _ _ _), Frm.fc, hb, ek, ep, et, ea]
                  (repeat' first | exact flat144 _ _ _ _ | exact flat23 _ _ | exact flat135 _ _ _ _ | exact flat147 _ _ _ _ | refine And.intro ?_ ?_)
                  have hE : frmEq F H = false := by simp only [frmEq, ht, hi, ek, ep, et, ea, decide_true, Bool.true_and, Bool.false_and, Bool.and_true]
                  rw [hE]
                  refine SQ.answer (rs := [.tmp 4]) rfl rfl ?_
                  simp -dsimp (decide := true) (maxSteps := 1000000) (disch := first | omega | simp (decide := true) only [kinpb4]) only [kinpb6, ↓brun_b, envOf, reduceIte, Nat.reduceEqDiff, Nat.reduceAdd, Nat.reduceSub, Nat.reduceMul, Nat.reduceBEq, Nat.reduceLeDiff, Nat.reduceLT, Int.reduceToNat, rho, frz1, ↓reduceIte]
                | true =>
                  cases eb : decide (F.b.l = H.b.l) with
                  | false =>
                    simp -dsimp (decide := true) (maxSteps := 1000000) (disch := first | omega | simp (decide := true) only [kinpb4]) only [kinpb5, ↓brun_b, envOf, reduceIte, Nat.reduceEqDiff, Nat.reduceAdd, Nat.reduceSub, Nat.reduceMul, Nat.reduceBEq, Nat.reduceLeDiff, Nat.reduceLT, Int.reduceToNat, rho, sBin_agg .eql 23 _ _ _ (I16.cellsEq _ _), sBin_agg .eql 135 _ _ _ (ceq135 _ _ _ _), sBin_agg .eql 144 _ _ _ (ceq144 _ _ _ _), sBin_agg .eql 147 _ _ _ (ceq147 _ _ _ _), sBin_agg .neq 23 _ _ _ (I16.cellsEq _ _), sBin_agg .neq 135 _ _ _ (ceq135 _ _ _ _), Frm.fc, hb, ek, ep, et, ea, eb]
                    (repeat' first | exact flat144 _ _ _ _ | exact flat23 _ _ | exact flat135 _ _ _ _ | exact flat147 _ _ _ _ | refine And.intro ?_ ?_)
                    have hE : frmEq F H = false := by simp only [frmEq, ht, hi, ek, ep, et, ea, eb, decide_true, Bool.true_and, Bool.false_and, Bool.and_true]
                    rw [hE]
                    refine SQ.answer (rs := [.tmp 4]) rfl rfl ?_
                    simp -dsimp (decide := true) (maxSteps := 1000000) (disch := first | omega | simp (decide := true) only [kinpb4]) only [kinpb6, ↓brun_b, envOf, reduceIte, Nat.reduceEqDiff, Nat.reduceAdd, Nat.reduceSub, Nat.reduceMul, Nat.reduceBEq, Nat.reduceLeDiff, Nat.reduceLT, Int.reduceToNat, rho, frz1, ↓reduceIte]
                  | true =>
                    cases en : decide (F.n = H.n) with
                    | false =>
                      simp -dsimp (decide := true) (maxSteps := 1000000) (disch := first | omega | simp (decide := true) only [kinpb4]) only [kinpb5, ↓brun_b, envOf, reduceIte, Nat.reduceEqDiff, Nat.reduceAdd, Nat.reduceSub, Nat.reduceMul, Nat.reduceBEq, Nat.reduceLeDiff, Nat.reduceLT, Int.reduceToNat, rho, sBin_agg .eql 23 _ _ _ (I16.cellsEq _ _), sBin_agg .eql 135 _ _ _ (ceq135 _ _ _ _), sBin_agg .eql 144 _ _ _ (ceq144 _ _ _ _), sBin_agg .eql 147 _ _ _ (ceq147 _ _ _ _), sBin_agg .neq 23 _ _ _ (I16.cellsEq _ _), sBin_agg .neq 135 _ _ _ (ceq135 _ _ _ _), Frm.fc, hb, ek, ep, et, ea, eb, en]
                      (repeat' first | exact flat144 _ _ _ _ | exact flat23 _ _ | exact flat135 _ _ _ _ | exact flat147 _ _ _ _ | refine And.intro ?_ ?_)
                      have hE : frmEq F H = false := by simp only [frmEq, ht, hi, ek, ep, et, ea, eb, en, decide_true, Bool.true_and, Bool.false_and, Bool.and_true]
                      rw [hE]
                      refine SQ.answer (rs := [.tmp 4]) rfl rfl ?_
                      simp -dsimp (decide := true) (maxSteps := 1000000) (disch := first | omega | simp (decide := true) only [kinpb4]) only [kinpb6, ↓brun_b, envOf, reduceIte, Nat.reduceEqDiff, Nat.reduceAdd, Nat.reduceSub, Nat.reduceMul, Nat.reduceBEq, Nat.reduceLeDiff, Nat.reduceLT, Int.reduceToNat, rho, frz1, ↓reduceIte]
                    | true =>
                      cases ef : (decide (F.fi = H.fi) && decide (F.fn = H.fn)) with
                      | false =>
                        simp -dsimp (decide := true) (maxSteps := 1000000) (disch := first | omega | simp (decide := true) only [kinpb4]) only [kinpb5, ↓brun_b, envOf, reduceIte, Nat.reduceEqDiff, Nat.reduceAdd, Nat.reduceSub, Nat.reduceMul, Nat.reduceBEq, Nat.reduceLeDiff, Nat.reduceLT, Int.reduceToNat, rho, sBin_agg .eql 23 _ _ _ (I16.cellsEq _ _), sBin_agg .eql 135 _ _ _ (ceq135 _ _ _ _), sBin_agg .eql 144 _ _ _ (ceq144 _ _ _ _), sBin_agg .eql 147 _ _ _ (ceq147 _ _ _ _), sBin_agg .neq 23 _ _ _ (I16.cellsEq _ _), sBin_agg .neq 135 _ _ _ (ceq135 _ _ _ _), Frm.fc, hb, ek, ep, et, ea, eb, en, ef]
                        (repeat' first | exact flat144 _ _ _ _ | exact flat23 _ _ | exact flat135 _ _ _ _ | exact flat147 _ _ _ _ | refine And.intro ?_ ?_)
                        have hE : frmEq F H = false := by simp only [frmEq, ht, hi, ek, ep, et, ea, eb, en, ef, decide_true, Bool.true_and, Bool.false_and, Bool.and_true]
                        rw [hE]
                        refine SQ.answer (rs := [.tmp 4]) rfl rfl ?_
                        simp -dsimp (decide := true) (maxSteps := 1000000) (disch := first | omega | simp (decide := true) only [kinpb4]) only [kinpb6, ↓brun_b, envOf, reduceIte, Nat.reduceEqDiff, Nat.reduceAdd, Nat.reduceSub, Nat.reduceMul, Nat.reduceBEq, Nat.reduceLeDiff, Nat.reduceLT, Int.reduceToNat, rho, frz1, ↓reduceIte]
                      | true =>
                        cases eg : (decide (F.ti = H.ti) && decide (F.tn = H.tn)) with
                        | false =>
                          simp -dsimp (decide := true) (maxSteps := 1000000) (disch := first | omega | simp (decide := true) only [kinpb4]) only [kinpb5, ↓brun_b, envOf, reduceIte, Nat.reduceEqDiff, Nat.reduceAdd, Nat.reduceSub, Nat.reduceMul, Nat.reduceBEq, Nat.reduceLeDiff, Nat.reduceLT, Int.reduceToNat, rho, sBin_agg .eql 23 _ _ _ (I16.cellsEq _ _), sBin_agg .eql 135 _ _ _ (ceq135 _ _ _ _), sBin_agg .eql 144 _ _ _ (ceq144 _ _ _ _), sBin_agg .eql 147 _ _ _ (ceq147 _ _ _ _), sBin_agg .neq 23 _ _ _ (I16.cellsEq _ _), sBin_agg .neq 135 _ _ _ (ceq135 _ _ _ _), Frm.fc, hb, ek, ep, et, ea, eb, en, ef, eg]
                          (repeat' first | exact flat144 _ _ _ _ | exact flat23 _ _ | exact flat135 _ _ _ _ | exact flat147 _ _ _ _ | refine And.intro ?_ ?_)
                          have hE : frmEq F H = false := by simp only [frmEq, ht, hi, ek, ep, et, ea, eb, en, ef, eg, decide_true, Bool.true_and, Bool.false_and, Bool.and_true]
                          rw [hE]
                          refine SQ.answer (rs := [.tmp 4]) rfl rfl ?_
                          simp -dsimp (decide := true) (maxSteps := 1000000) (disch := first | omega | simp (decide := true) only [kinpb4]) only [kinpb6, ↓brun_b, envOf, reduceIte, Nat.reduceEqDiff, Nat.reduceAdd, Nat.reduceSub, Nat.reduceMul, Nat.reduceBEq, Nat.reduceLeDiff, Nat.reduceLT, Int.reduceToNat, rho, frz1, ↓reduceIte]
                        | true =>
                          cases eo : decide (F.op = H.op) with
                          | false =>
                            simp -dsimp (decide := true) (maxSteps := 1000000) (disch := first | omega | simp (decide := true) only [kinpb4]) only [kinpb5, ↓brun_b, envOf, reduceIte, Nat.reduceEqDiff, Nat.reduceAdd, Nat.reduceSub, Nat.reduceMul, Nat.reduceBEq, Nat.reduceLeDiff, Nat.reduceLT, Int.reduceToNat, rho, sBin_agg .eql 23 _ _ _ (I16.cellsEq _ _), sBin_agg .eql 135 _ _ _ (ceq135 _ _ _ _), sBin_agg .eql 144 _ _ _ (ceq144 _ _ _ _), sBin_agg .eql 147 _ _ _ (ceq147 _ _ _ _), sBin_agg .neq 23 _ _ _ (I16.cellsEq _ _), sBin_agg .neq 135 _ _ _ (ceq135 _ _ _ _), Frm.fc, hb, ek, ep, et, ea, eb, en, ef, eg, eo]
                            (repeat' first | exact flat144 _ _ _ _ | exact flat23 _ _ | exact flat135 _ _ _ _ | exact flat147 _ _ _ _ | refine And.intro ?_ ?_)
                            have hE : frmEq F H = false := by simp only [frmEq, ht, hi, ek, ep, et, ea, eb, en, ef, eg, eo, decide_true, Bool.true_and, Bool.false_and, Bool.and_true]
                            rw [hE]
                            refine SQ.answer (rs := [.tmp 4]) rfl rfl ?_
                            simp -dsimp (decide := true) (maxSteps := 1000000) (disch := first | omega | simp (decide := true) only [kinpb4]) only [kinpb6, ↓brun_b, envOf, reduceIte, Nat.reduceEqDiff, Nat.reduceAdd, Nat.reduceSub, Nat.reduceMul, Nat.reduceBEq, Nat.reduceLeDiff, Nat.reduceLT, Int.reduceToNat, rho, frz1, ↓reduceIte]
                          | true =>
                            cases el : decide (F.ttl = H.ttl) with
                            | false =>
                              simp -dsimp (decide := true) (maxSteps := 1000000) (disch := first | omega | simp (decide := true) only [kinpb4]) only [kinpb5, ↓brun_b, envOf, reduceIte, Nat.reduceEqDiff, Nat.reduceAdd, Nat.reduceSub, Nat.reduceMul, Nat.reduceBEq, Nat.reduceLeDiff, Nat.reduceLT, Int.reduceToNat, rho, sBin_agg .eql 23 _ _ _ (I16.cellsEq _ _), sBin_agg .eql 135 _ _ _ (ceq135 _ _ _ _), sBin_agg .eql 144 _ _ _ (ceq144 _ _ _ _), sBin_agg .eql 147 _ _ _ (ceq147 _ _ _ _), sBin_agg .neq 23 _ _ _ (I16.cellsEq _ _), sBin_agg .neq 135 _ _ _ (ceq135 _ _ _ _), Frm.fc, hb, ek, ep, et, ea, eb, en, ef, eg, eo, el]
                              (repeat' first | exact flat144 _ _ _ _ | exact flat23 _ _ | exact flat135 _ _ _ _ | exact flat147 _ _ _ _ | refine And.intro ?_ ?_)
                              have hE : frmEq F H = false := by simp only [frmEq, ht, hi, ek, ep, et, ea, eb, en, ef, eg, eo, el, decide_true, Bool.true_and, Bool.false_and, Bool.and_true]
                              rw [hE]
                              refine SQ.answer (rs := [.tmp 4]) rfl rfl ?_
                              simp -dsimp (decide := true) (maxSteps := 1000000) (disch := first | omega | simp (decide := true) only [kinpb4]) only [kinpb6, ↓brun_b, envOf, reduceIte, Nat.reduceEqDiff, Nat.reduceAdd, Nat.reduceSub, Nat.reduceMul, Nat.reduceBEq, Nat.reduceLeDiff, Nat.reduceLT, Int.reduceToNat, rho, frz1, ↓reduceIte]
                            | true =>
                              cases ex : decide (F.tx = H.tx) with
                              | false =>
                                simp -dsimp (decide := true) (maxSteps := 1000000) (disch := first | omega | simp (decide := true) only [kinpb4]) only [kinpb5, ↓brun_b, envOf, reduceIte, Nat.reduceEqDiff, Nat.reduceAdd, Nat.reduceSub, Nat.reduceMul, Nat.reduceBEq, Nat.reduceLeDiff, Nat.reduceLT, Int.reduceToNat, rho, sBin_agg .eql 23 _ _ _ (I16.cellsEq _ _), sBin_agg .eql 135 _ _ _ (ceq135 _ _ _ _), sBin_agg .eql 144 _ _ _ (ceq144 _ _ _ _), sBin_agg .eql 147 _ _ _ (ceq147 _ _ _ _), sBin_agg .neq 23 _ _ _ (I16.cellsEq _ _), sBin_agg .neq 135 _ _ _ (ceq135 _ _ _ _), Frm.fc, hb, ek, ep, et, ea, eb, en, ef, eg, eo, el, ex]
                                (repeat' first | exact flat144 _ _ _ _ | exact flat23 _ _ | exact flat135 _ _ _ _ | exact flat147 _ _ _ _ | refine And.intro ?_ ?_)
                                have hE : frmEq F H = false := by simp only [frmEq, ht, hi, ek, ep, et, ea, eb, en, ef, eg, eo, el, ex, decide_true, Bool.true_and, Bool.false_and, Bool.and_true]
                                rw [hE]
                                refine SQ.answer (rs := [.tmp 4]) rfl rfl ?_
                                simp -dsimp (decide := true) (maxSteps := 1000000) (disch := first | omega | simp (decide := true) only [kinpb4]) only [kinpb6, ↓brun_b, envOf, reduceIte, Nat.reduceEqDiff, Nat.reduceAdd, Nat.reduceSub, Nat.reduceMul, Nat.reduceBEq, Nat.reduceLeDiff, Nat.reduceLT, Int.reduceToNat, rho, frz1, ↓reduceIte]
                              | true =>
                                cases ey : decide (F.key.l = H.key.l) with
                                | false =>
                                  simp -dsimp (decide := true) (maxSteps := 1000000) (disch := first | omega | simp (decide := true) only [kinpb4]) only [kinpb5, ↓brun_b, envOf, reduceIte, Nat.reduceEqDiff, Nat.reduceAdd, Nat.reduceSub, Nat.reduceMul, Nat.reduceBEq, Nat.reduceLeDiff, Nat.reduceLT, Int.reduceToNat, rho, sBin_agg .eql 23 _ _ _ (I16.cellsEq _ _), sBin_agg .eql 135 _ _ _ (ceq135 _ _ _ _), sBin_agg .eql 144 _ _ _ (ceq144 _ _ _ _), sBin_agg .eql 147 _ _ _ (ceq147 _ _ _ _), sBin_agg .neq 23 _ _ _ (I16.cellsEq _ _), sBin_agg .neq 135 _ _ _ (ceq135 _ _ _ _), Frm.fc, hb, ek, ep, et, ea, eb, en, ef, eg, eo, el, ex, ey]
                                  (repeat' first | exact flat144 _ _ _ _ | exact flat23 _ _ | exact flat135 _ _ _ _ | exact flat147 _ _ _ _ | refine And.intro ?_ ?_)
                                  have hE : frmEq F H = false := by simp only [frmEq, ht, hi, ek, ep, et, ea, eb, en, ef, eg, eo, el, ex, ey, decide_true, Bool.true_and, Bool.false_and, Bool.and_true]
                                  rw [hE]
                                  refine SQ.answer (rs := [.tmp 4]) rfl rfl ?_
                                  simp -dsimp (decide := true) (maxSteps := 1000000) (disch := first | omega | simp (decide := true) only [kinpb4]) only [kinpb6, ↓brun_b, envOf, reduceIte, Nat.reduceEqDiff, Nat.reduceAdd, Nat.reduceSub, Nat.reduceMul, Nat.reduceBEq, Nat.reduceLeDiff, Nat.reduceLT, Int.reduceToNat, rho, frz1, ↓reduceIte]
                                | true =>
                                  cases ev : (decide (F.vn = H.vn) && decide (F.vwho.l = H.vwho.l)) with
                                  | false =>
                                    simp -dsimp (decide := true) (maxSteps := 1000000) (disch := first | omega | simp (decide := true) only [kinpb4]) only [kinpb5, ↓brun_b, envOf, reduceIte, Nat.reduceEqDiff, Nat.reduceAdd, Nat.reduceSub, Nat.reduceMul, Nat.reduceBEq, Nat.reduceLeDiff, Nat.reduceLT, Int.reduceToNat, rho, sBin_agg .eql 23 _ _ _ (I16.cellsEq _ _), sBin_agg .eql 135 _ _ _ (ceq135 _ _ _ _), sBin_agg .eql 144 _ _ _ (ceq144 _ _ _ _), sBin_agg .eql 147 _ _ _ (ceq147 _ _ _ _), sBin_agg .neq 23 _ _ _ (I16.cellsEq _ _), sBin_agg .neq 135 _ _ _ (ceq135 _ _ _ _), Frm.fc, hb, ek, ep, et, ea, eb, en, ef, eg, eo, el, ex, ey, ev]
                                    (repeat' first | exact flat144 _ _ _ _ | exact flat23 _ _ | exact flat135 _ _ _ _ | exact flat147 _ _ _ _ | refine And.intro ?_ ?_)
                                    have hE : frmEq F H = false := by simp only [frmEq, ht, hi, ek, ep, et, ea, eb, en, ef, eg, eo, el, ex, ey, ev, decide_true, Bool.true_and, Bool.false_and, Bool.and_true]
                                    rw [hE]
                                    refine SQ.answer (rs := [.tmp 4]) rfl rfl ?_
                                    simp -dsimp (decide := true) (maxSteps := 1000000) (disch := first | omega | simp (decide := true) only [kinpb4]) only [kinpb6, ↓brun_b, envOf, reduceIte, Nat.reduceEqDiff, Nat.reduceAdd, Nat.reduceSub, Nat.reduceMul, Nat.reduceBEq, Nat.reduceLeDiff, Nat.reduceLT, Int.reduceToNat, rho, frz1, ↓reduceIte]
                                  | true =>
                                    simp -dsimp (decide := true) (maxSteps := 1000000) (disch := first | omega | simp (decide := true) only [kinpb4]) only [kinpb5, ↓brun_b, envOf, reduceIte, Nat.reduceEqDiff, Nat.reduceAdd, Nat.reduceSub, Nat.reduceMul, Nat.reduceBEq, Nat.reduceLeDiff, Nat.reduceLT, Int.reduceToNat, rho, sBin_agg .eql 23 _ _ _ (I16.cellsEq _ _), sBin_agg .eql 135 _ _ _ (ceq135 _ _ _ _), sBin_agg .eql 144 _ _ _ (ceq144 _ _ _ _), sBin_agg .eql 147 _ _ _ (ceq147 _ _ _ _), sBin_agg .neq 23 _ _ _ (I16.cellsEq _ _), sBin_agg .neq 135 _ _ _ (ceq135 _ _ _ _), Frm.fc, hb, ek, ep, et, ea, eb, en, ef, eg, eo, el, ex, ey, ev]
                                    (repeat' first | exact flat144 _ _ _ _ | exact flat23 _ _ | exact flat135 _ _ _ _ | exact flat147 _ _ _ _ | refine And.intro ?_ ?_)
                                    have hE : frmEq F H = decide (F.val = H.val) := by simp only [frmEq, ht, hi, ek, ep, et, ea, eb, en, ef, eg, eo, el, ex, ey, ev, decide_true, Bool.true_and, Bool.false_and, Bool.and_true]
                                    rw [hE]
                                    refine SQ.answer (rs := [.tmp 4]) rfl rfl ?_
                                    simp -dsimp (decide := true) (maxSteps := 1000000) (disch := first | omega | simp (decide := true) only [kinpb4]) only [kinpb6, ↓brun_b, envOf, reduceIte, Nat.reduceEqDiff, Nat.reduceAdd, Nat.reduceSub, Nat.reduceMul, Nat.reduceBEq, Nat.reduceLeDiff, Nat.reduceLT, Int.reduceToNat, rho, frz1, ↓reduceIte]
end Go.Proofs
