/- Contracts of functions that the laws reach, on abstract values, and what they need: no conditions but those that each theorem states. -/
import Derived.Test.YtheodenjjaoncaaKinP
import Derived.Test.YtheodenjjaoncaaBdyA
import Derived.Test.YtheodenjjaoncaaEncR
import Derived.Test.YtheodenjjaoncaaWirR
import Derived.Test.YtheodenjjaoncaaFraP
set_option linter.unusedVariables false
set_option linter.unusedSimpArgs false
set_option linter.defProp false
namespace Go.Proofs
open Go Go.SL
set_option maxRecDepth 100000
def itemEq (F H : Frm) : Bool := decide (F.key.l = H.key.l) && ((decide (F.vn = H.vn) && decide (F.vwho.l = H.vwho.l)) && decide (F.val = H.val))
theorem frmEq_item (F H : Frm) : frmEq F H = (decide (F.tr = H.tr) && (decide (F.is.map I16.l = H.is.map I16.l) && (decide (F.kind = H.kind) && ((decide (F.who.l = H.who.l) && decide (F.pn = H.pn)) && (decide (F.toA = H.toA) && (decide (F.a.l = H.a.l) && (decide (F.b.l = H.b.l) && (decide (F.n = H.n) &&
    ((decide (F.fi = H.fi) && decide (F.fn = H.fn)) && ((decide (F.ti = H.ti) && decide (F.tn = H.tn)) && (itemEq F H && (decide (F.op = H.op) && (decide (F.ttl = H.ttl) && decide (F.tx = H.tx))))))))))))) ) := by
  unfold frmEq itemEq
  rw [Bool.eq_iff_iff]
  simp only [Bool.and_eq_true]
  constructor
  · rintro ⟨h1, h2, h3, h4, h6, h7, h8, h9, h10, h12, h14, h15, h16, h17, h18, h20⟩
    exact ⟨h1, h2, h3, h4, h6, h7, h8, h9, h10, h12, ⟨h17, h18, h20⟩, h14, h15, h16⟩
  · rintro ⟨h1, h2, h3, h4, h6, h7, h8, h9, h10, h12, ⟨h17, h18, h20⟩, h14, h15, h16⟩
    exact ⟨h1, h2, h3, h4, h6, h7, h8, h9, h10, h12, h14, h15, h16, h17, h18, h20⟩
def rencpc0 :=
  (aI (aI (aI @IC.flat @IC.one) (aI @bdset_a (aI @brow_flat @idrs_flat))) (aI (aI @lrows_flat (aI @zD.eq_1 @zE.eq_1)) (aI @zF.eq_1 (aI @zH.eq_1 @zK.eq_1))))
def rencpb0 :=
  (aI (aI (aI rencpc0 @FC.c_length) (aI @FC.flat_eq @FC.one_eq)) (aI (aI @I16.c_length @IC.c_length) (aI @idrs_len (aI @lrow_len @lrows_length))))
def rencpc1 :=
  (aI (aI (aI (aI @FC.at_fi (aI @FC.at_fn @FC.at_is)) (aI @FC.at_kind (aI @FC.at_n @FC.at_op))) (aI (aI @FC.at_pn (aI @FC.at_ti @FC.at_tn)) (aI @FC.at_toA (aI @FC.at_tr @FC.at_ttl)))) (aI (aI (aI @FC.at_tx (aI @FC.at_val @FC.at_vn)) (aI @FC.part_P (aI @FC.part_a @FC.part_b))) (aI (aI @FC.part_from (aI @FC.part_it @FC.part_key)) (aI (aI @FC.part_to @FC.part_vwho) (aI @FC.part_who @brows_length)))))
def rencpc2 :=
  (aI (aI (aI @FC.part (aI @FC.set_all @I16.part)) (aI (aI @Int.cast_ofNat_Int @List.replicate_succ.{0}) (aI @List.replicate_zero.{0} @SKren_row))) (aI (aI @after_mk (aI @al151 @cellAt_succ)) (aI (aI @cellAt_zero @renL_cons) (aI @renL_nil @ren_tup))))
def rencpc3 :=
  (aI (aI @beq_self_eq_true.{0} (aI @brun_a @cond_false.{1})) (aI (aI @cond_true.{1} @tab.a2) (aI @tab.s2 @tab.u2)))
def rencpc4 :=
  (aI (aI (aI (aI @tab.a147 @tab.a149) (aI @tab.a23 @tab.a35)) (aI (aI @tab.f147x0 @tab.f147x1) (aI @tab.f149x0 (aI @tab.f149x1 @tab.f149x2)))) (aI (aI (aI @tab.s147 @tab.s149) (aI @tab.s23 @tab.s35)) (aI (aI @tab.s5 @tab.u23) (aI @tab.u35 (aI @tab.u5 @tab.u9)))))
def rencpb1 :=
  (aI (aI (aI rencpc1 (aI rencpc2 rencpc3)) (aI rencpc4 (aI @FC.c_length @I16.c_length))) (aI (aI @IC.at_val (aI @IC.c_length @IC.part_key)) (aI (aI @IC.part_ver @idrs_len) (aI @lrows_length @strEq))))
def rencpb2 :=
  (aI (aI (aI rencpc2 (aI rencpc3 rencpc4)) (aI (aI @FC.c_length @I16.c_length) (aI @IC.at_val @IC.c_length))) (aI (aI @IC.part_key (aI @IC.part_ver @bwk_a)) (aI (aI @eq_self.{1} @forall_const.{1}) (aI @implies_true.{0} @implies_true.{1}))))
theorem sameItem_calls (F H : Frm) : Pure Try.prog 139 [.agg (IC.c ⟨F.key, .v (.int .i64 F.vn), F.vwho, bsl F.val⟩), .agg (IC.c ⟨H.key, .v (.int .i64 H.vn), H.vwho, bsl H.val⟩)] (.v (.bool (itemEq F H))) := by
  unfold itemEq
  cases ey : decide (F.key.l = H.key.l) with
  | false =>
    refine SCall.mk (fn := Try.f139) (by kernel_rfl) rfl (Nat.le_of_ble_eq_true (by kernel_rfl)) ?_
    refine Sem.go (k := 1000) ?_
    simp -dsimp (decide := true) (disch := first | omega | simp (decide := true) only [rencpb0]) only [rencpb1, ↓brun_b, envOf, Nat.reduceAdd, Nat.reduceBEq, sBin_agg .eql 23 _ _ _ (I16.cellsEq _ _), ey]
    (repeat' first | exact flat23 _ _ | exact flat147 _ _ _ _ | refine And.intro ?_ ?_)
    refine SQ.answer (rs := [.tmp 4]) rfl rfl ?_
    simp -dsimp (decide := true) (disch := first | omega | simp (decide := true) only [rencpb0]) only [rencpb2, ↓brun_b, Nat.reduceAdd, rho]
  | true =>
    cases ev : (decide (F.vn = H.vn) && decide (F.vwho.l = H.vwho.l)) with
    | false =>
      refine SCall.mk (fn := Try.f139) (by kernel_rfl) rfl (Nat.le_of_ble_eq_true (by kernel_rfl)) ?_
      refine Sem.go (k := 1000) ?_
      simp -dsimp (decide := true) (disch := first | omega | simp (decide := true) only [rencpb0]) only [rencpb1, ↓brun_b, envOf, Nat.reduceAdd, Nat.reduceBEq, sBin_agg .eql 23 _ _ _ (I16.cellsEq _ _), sBin_agg .eql 147 _ _ _ (ceq147 _ _ _ _), ey, ev]
      (repeat' first | exact flat23 _ _ | exact flat147 _ _ _ _ | refine And.intro ?_ ?_)
      refine SQ.answer (rs := [.tmp 4]) rfl rfl ?_
      simp -dsimp (decide := true) (disch := first | omega | simp (decide := true) only [rencpb0]) only [rencpb2, ↓brun_b, Nat.reduceAdd, rho]
    | true =>
      refine SCall.mk (fn := Try.f139) (by kernel_rfl) rfl (Nat.le_of_ble_eq_true (by kernel_rfl)) ?_
      refine Sem.go (k := 1000) ?_
      simp -dsimp (decide := true) (disch := first | omega | simp (decide := true) only [rencpb0]) only [rencpb1, ↓brun_b, envOf, Nat.reduceAdd, Nat.reduceBEq, sBin_agg .eql 23 _ _ _ (I16.cellsEq _ _), sBin_agg .eql 147 _ _ _ (ceq147 _ _ _ _), ey, ev]
      (repeat' first | exact flat23 _ _ | exact flat147 _ _ _ _ | refine And.intro ?_ ?_)
      refine SQ.answer (rs := [.tmp 4]) rfl rfl ?_
      simp -dsimp (decide := true) (disch := first | omega | simp (decide := true) only [rencpb0]) only [rencpb2, ↓brun_b, Nat.reduceAdd, rho]
def rencpc5 :=
  (aI (aI (aI (aI (aI @tab.a135 @tab.a144) (aI @tab.a145 @tab.a151)) (aI (aI @tab.a3 @tab.a4) (aI @tab.a79 @tab.f135x0))) (aI (aI (aI @tab.f135x1 @tab.f144x0) (aI @tab.f144x1 @tab.f151x0)) (aI (aI @tab.f151x1 @tab.f151x10) (aI @tab.f151x11 (aI @tab.f151x12 @tab.f151x13))))) (aI (aI (aI (aI @tab.f151x2 @tab.f151x3) (aI @tab.f151x4 @tab.f151x5)) (aI (aI @tab.f151x6 @tab.f151x7) (aI @tab.f151x8 (aI @tab.f151x9 @tab.s135)))) (aI (aI (aI @tab.s144 @tab.s145) (aI @tab.s151 @tab.s3)) (aI (aI @tab.s4 @tab.s79) (aI @tab.u145 (aI @tab.u4 @tab.u79))))))
def rencpb3 :=
  (aI (aI (aI rencpc1 (aI rencpc2 rencpc3)) (aI (aI rencpc5 rencpc4) (aI @FC.c_length @I16.c_length))) (aI (aI @IC.at_val (aI @IC.c_length @IC.part_key)) (aI (aI @IC.part_ver @idrs_len) (aI @lrows_length @strEq))))
def rencpb4 :=
  (aI (aI (aI rencpc2 rencpc3) (aI rencpc5 (aI rencpc4 @FC.c_length))) (aI (aI @I16.c_length (aI @bwk_a @eq_self.{1})) (aI @forall_const.{1} (aI @implies_true.{0} @implies_true.{1}))))
def rencpb5 :=
  (aI (aI (aI (aI rencpc1 rencpc2) (aI rencpc3 rencpc5)) (aI (aI rencpc4 @FC.c_length) (aI @I16.c_length (aI @IC.at_val @IC.c_length)))) (aI (aI (aI @IC.part_key @IC.part_ver) (aI @bwk_a (aI @eq_self.{1} @forall_const.{1}))) (aI (aI @idrs_len @implies_true.{0}) (aI @implies_true.{1} (aI @lrows_length @strEq)))))
def rencpb6 :=
  (aI (aI (aI @List.length_cons.{0} @List.length_nil.{0}) (aI @Nat.zero_add @roL_in)) (aI (aI @roL_nil @roL_none) (aI @roL_row @ro_mk)))
def rencpb7 :=
  (aI (aI (aI (aI rencpc1 rencpc2) (aI rencpc3 rencpc5)) (aI (aI rencpc4 @FC.c_length) (aI @I16.c_length @IC.at_val))) (aI (aI (aI @IC.c_length @IC.part_key) (aI @IC.part_ver @idrs_len)) (aI (aI @lrow_cell @lrow_len) (aI @lrows_at (aI @lrows_length @strEq)))))
def rencpb8 :=
  (aI rencpc3 (aI rencpc5 rencpc4))
set_option maxHeartbeats 16000000 in
theorem same104_calls (F H : Frm) (h1 : F.tr.length < 4611686018427387904) (h2 : F.is.length < 4611686018427387904) (h3 : H.tr.length < 4611686018427387904) (h4 : H.is.length < 4611686018427387904) : Pure Try.prog 104 [.agg F.fc.c, .agg H.fc.c] (.v (.bool (frmEq F H))) := by
  have hb : ∀ a b : Bool, (a == b) = decide (a = b) := fun a b => by cases a <;> cases b <;> rfl
  by_cases hl1 : F.tr.length = H.tr.length
  rotate_left
  · have d1 : decide ((F.tr.length : Int) = (H.tr.length : Int)) = false := decide_eq_false (by omega)
    have hE : frmEq F H = false := by
      have : ¬ F.tr = H.tr := fun h => hl1 (by rw [h])
      simp only [frmEq_item, this, decide_false, Bool.false_and]
    rw [hE]
    refine SCall.mk (fn := Try.f104) (by kernel_rfl) rfl (Nat.le_of_ble_eq_true (by kernel_rfl)) ?_
    refine Sem.go (k := 1000) ?_
    simp -dsimp (decide := true) (disch := first | omega | simp (decide := true) only [rencpb0]) only [rencpb3, ↓brun_b, envOf, Nat.reduceAdd, Nat.reduceBEq, Frm.fc, d1]
    refine SQ.answer (rs := [.tmp 4]) rfl rfl ?_
    simp -dsimp (decide := true) (disch := first | omega | simp (decide := true) only [rencpb0]) only [rencpb4, ↓brun_b, Nat.reduceAdd, rho]
  have d1 : decide ((F.tr.length : Int) = (H.tr.length : Int)) = true := decide_eq_true (by omega)
  by_cases hl2 : F.is.length = H.is.length
  rotate_left
  · have d2 : decide ((F.is.length : Int) = (H.is.length : Int)) = false := decide_eq_false (by omega)
    have hE : frmEq F H = false := by
      have : ¬ F.is.map I16.l = H.is.map I16.l := fun h => hl2 (by simpa using congrArg List.length h)
      simp only [frmEq_item, this, decide_false, Bool.false_and, Bool.and_false]
    rw [hE]
    refine SCall.mk (fn := Try.f104) (by kernel_rfl) rfl (Nat.le_of_ble_eq_true (by kernel_rfl)) ?_
    refine Sem.go (k := 1000) ?_
    simp -dsimp (decide := true) (disch := first | omega | simp (decide := true) only [rencpb0]) only [rencpb3, ↓brun_b, envOf, Nat.reduceAdd, Nat.reduceBEq, Frm.fc, d1, d2]
    refine SQ.answer (rs := [.tmp 4]) rfl rfl ?_
    simp -dsimp (decide := true) (disch := first | omega | simp (decide := true) only [rencpb0]) only [rencpb4, ↓brun_b, Nat.reduceAdd, rho]
  have d2 : decide ((F.is.length : Int) = (H.is.length : Int)) = true := decide_eq_true (by omega)
  refine SCall.mk (fn := Try.f104) (by kernel_rfl) rfl (Nat.le_of_ble_eq_true (by kernel_rfl)) ?_
  refine Sem.go (k := 1000) ?_
  simp -dsimp (decide := true) (disch := first | omega | simp (decide := true) only [rencpb0]) only [rencpb3, ↓brun_b, envOf, Nat.reduceAdd, Nat.reduceBEq, Frm.fc, d1, d2]
  refine Sem.loop (ι := {k : Nat // k ≤ F.tr.length ∧ ∀ i, i < k → F.tr.getD i 0 = H.tr.getD i 0}) (fun k => ⟨143, 0, [(2, .ptr 0 0 0), (3, .ptr 1 0 0), (4, .v (.bool false)), (5, .v (.int .i64 (k.1 : Int)))], [some (.row ⟨95, 1, true, 151, fun _ => F.fc.c⟩), some (.row ⟨95, 1, true, 151, fun _ => H.fc.c⟩)]⟩) (fun k => F.tr.length - k.1) ⟨0, by omega, fun i hi => by omega⟩ [0, 1] ?_ ?_
  · (refine Wk.ofC ?_; simp -dsimp (decide := true) (disch := first | omega | simp (decide := true) only [rencpb0]) only [rencpb5, ↓brun_b, Nat.reduceAdd, Nat.reduceBEq, Frm.fc])
  · rintro ⟨k, hk, hall⟩
    refine Sem.go (k := 1000) ?_
    simp -dsimp (decide := true) (disch := first | omega | simp (decide := true) only [rencpb0]) only [rencpb3, ↓brun_b, Nat.reduceAdd, Nat.reduceBEq, Frm.fc]
    refine SCond.split (fun h5 => ?_) (fun h5 => ?_)
    · simp only [decide_eq_true_eq] at h5
      have hk' : k < F.tr.length := by omega
      have hkG : k < H.tr.length := by omega
      have hw : IntKind.i64.wrap ((k : Int) + 1) = ((k + 1 : Nat) : Int) := by rw [wrap_i64 _ (by omega)]; rfl
      simp -dsimp (decide := true) (disch := first | omega | simp (decide := true) only [rencpb0]) only [rencpb3]
      refine Sem.draw' (by kernel_rfl) (.one 0 (.one 1 (.one 2 (.one 3 (.one 4 (.one 5 (.one 6 (.one 7 (.one 8 (.one 9 (.one 10 .done))))))))))) [] (by kernel_rfl) (fun G ff hG hf => ?_)
      simp (decide := true) only [rencpb6, Nat.reduceAdd] at hG ⊢
      simp -dsimp (decide := true) (disch := first | omega | simp (decide := true) only [rencpb0]) only [rencpb7, ↓brun_b, Nat.reduceAdd, Nat.reduceBEq, Nat.reduceLeDiff, hG]
      refine And.intro (by omega) (And.intro (by omega) ?_)
      cases hd : decide (F.tr.getD k 0 = H.tr.getD k 0) with
      | true =>
        refine hf _ (Sem.go (k := 1000) ?_)
        simp (decide := true) only [back_mk, backL_row, backL_nil, Nat.zero_add, Nat.reduceAdd]
        simp -dsimp (decide := true) (disch := first | omega | simp (decide := true) only [rencpb0]) only [rencpb3, ↓brun_b, Nat.reduceAdd, Nat.reduceBEq, hw]
        have he : F.tr.getD k 0 = H.tr.getD k 0 := of_decide_eq_true hd
        refine ⟨⟨k + 1, by omega, fun i hi => ?_⟩, [0, 1], ?_, by show F.tr.length - (k + 1) < F.tr.length - k; omega⟩
        · by_cases e : i = k
          · rw [e]; exact he
          · exact hall i (by omega)
        · (refine Wk.ofC ?_; simp -dsimp (decide := true) (disch := first | omega | simp (decide := true) only [rencpb0]) only [rencpb5, ↓brun_b, Nat.reduceAdd, Nat.reduceBEq])
      | false =>
        refine hf _ (Sem.go (k := 1000) ?_)
        simp (decide := true) only [back_mk, backL_row, backL_nil, Nat.zero_add, Nat.reduceAdd]
        simp -dsimp (decide := true) (disch := first | omega | simp (decide := true) only [rencpb0]) only [rencpb3, ↓brun_b, Nat.reduceAdd]
        have hE : frmEq F H = false := by
          have : ¬ F.tr = H.tr := fun h => of_decide_eq_false hd (by rw [h])
          simp only [frmEq_item, this, decide_false, Bool.false_and]
        rw [hE]
        refine SQ.answer (rs := [.tmp 4]) rfl rfl ?_
        simp -dsimp (decide := true) (disch := first | omega | simp (decide := true) only [rencpb0]) only [rencpb4, ↓brun_b, Nat.reduceAdd, rho]
    · simp only [decide_eq_false_iff_not] at h5
      obtain rfl : k = F.tr.length := by omega
      have ht : F.tr = H.tr := getD_ext 0 _ _ hl1 hall
      simp -dsimp (decide := true) (disch := first | omega | simp (decide := true) only [rencpb0]) only [rencpb3, ↓brun_b, reduceIte, Nat.reduceAdd]
      refine Sem.loop (ι := {k : Nat // k ≤ F.is.length ∧ ∀ i, i < k → F.is.getD i I16.zero = H.is.getD i I16.zero}) (fun k => ⟨143, 0, [(2, .ptr 0 0 0), (3, .ptr 1 0 0), (4, .v (.bool false)), (6, .v (.int .i64 (k.1 : Int)))], [some (.row ⟨95, 1, true, 151, fun _ => F.fc.c⟩), some (.row ⟨95, 1, true, 151, fun _ => H.fc.c⟩)]⟩) (fun k => F.is.length - k.1) ⟨0, by omega, fun i hi => by omega⟩ [0, 1] ?_ ?_
      · (refine Wk.ofC ?_; simp -dsimp (decide := true) (disch := first | omega | simp (decide := true) only [rencpb0]) only [rencpb5, ↓brun_b, Nat.reduceAdd, Nat.reduceBEq, Frm.fc])
      · rintro ⟨k, hk, hall⟩
        refine Sem.go (k := 1000) ?_
        simp -dsimp (decide := true) (disch := first | omega | simp (decide := true) only [rencpb0]) only [rencpb3, ↓brun_b, Nat.reduceAdd, Nat.reduceBEq, Frm.fc]
        refine SCond.split (fun h6 => ?_) (fun h6 => ?_)
        · simp only [decide_eq_true_eq] at h6
          have hk' : k < F.is.length := by omega
          have hkG : k < H.is.length := by omega
          have hw : IntKind.i64.wrap ((k : Int) + 1) = ((k + 1 : Nat) : Int) := by rw [wrap_i64 _ (by omega)]; rfl
          simp -dsimp (decide := true) (disch := first | omega | simp (decide := true) only [rencpb0]) only [rencpb3]
          refine Sem.draw' (by kernel_rfl) (.one 0 (.one 1 (.one 2 (.one 3 (.one 4 (.one 5 (.one 6 (.one 7 (.one 8 (.one 9 (.one 10 .done))))))))))) [] (by kernel_rfl) (fun G ff hG hf => ?_)
          simp (decide := true) only [rencpb6, Nat.reduceAdd] at hG ⊢
          simp -dsimp (decide := true) (disch := first | omega | simp (decide := true) only [rencpb0]) only [rencpb3, ↓brun_b, Nat.reduceAdd, Nat.reduceBEq, Nat.reduceLeDiff, sBin_agg .neq 23 _ _ _ (I16.cellsEq _ _), hG, idrs_at _ _ hk' I16.zero, idrs_at _ _ hkG I16.zero]
          refine And.intro (by omega) (And.intro (by omega) (And.intro (flat23 _ _) ?_))
          cases hd : decide ((F.is.getD k I16.zero).l = (H.is.getD k I16.zero).l) with
          | true =>
            refine hf _ (Sem.go (k := 1000) ?_)
            simp (decide := true) only [back_mk, backL_row, backL_nil, Nat.zero_add, Nat.reduceAdd]
            simp -dsimp (decide := true) (disch := first | omega | simp (decide := true) only [rencpb0]) only [rencpb3, ↓brun_b, Nat.reduceAdd, Nat.reduceBEq, hw]
            have he : F.is.getD k I16.zero = H.is.getD k I16.zero := I16.ext' (of_decide_eq_true hd)
            refine ⟨⟨k + 1, by omega, fun i hi => ?_⟩, [0, 1], ?_, by show F.is.length - (k + 1) < F.is.length - k; omega⟩
            · by_cases e : i = k
              · rw [e]; exact he
              · exact hall i (by omega)
            · (refine Wk.ofC ?_; simp -dsimp (decide := true) (disch := first | omega | simp (decide := true) only [rencpb0]) only [rencpb5, ↓brun_b, Nat.reduceAdd, Nat.reduceBEq])
          | false =>
            refine hf _ (Sem.go (k := 1000) ?_)
            simp (decide := true) only [back_mk, backL_row, backL_nil, Nat.zero_add, Nat.reduceAdd]
            simp -dsimp (decide := true) (disch := first | omega | simp (decide := true) only [rencpb0]) only [rencpb3, ↓brun_b, Nat.reduceAdd]
            have hE : frmEq F H = false := by
              have : ¬ F.is.map I16.l = H.is.map I16.l := fun h => of_decide_eq_false hd (by
                have h7 : (F.is.map I16.l).getD k [] = (H.is.map I16.l).getD k [] := by rw [h]
                simpa [List.getD_eq_getElem?_getD, List.getElem?_eq_getElem hk', List.getElem?_eq_getElem hkG] using h7)
              simp only [frmEq_item, this, decide_false, Bool.false_and, Bool.and_false]
            rw [hE]
            refine SQ.answer (rs := [.tmp 4]) rfl rfl ?_
            simp -dsimp (decide := true) (disch := first | omega | simp (decide := true) only [rencpb0]) only [rencpb4, ↓brun_b, Nat.reduceAdd, rho]
        · simp only [decide_eq_false_iff_not] at h6
          obtain rfl : k = F.is.length := by omega
          have hi : F.is = H.is := getD_ext I16.zero _ _ hl2 hall
          simp only [lapp_cons, lapp_nil]
          cases ek : decide (F.kind = H.kind) with
          | false =>
            simp -dsimp (decide := true) (disch := first | omega | simp (decide := true) only [rencpb0]) only [rencpb3, ↓brun_b, reduceIte, Nat.reduceAdd, Nat.reduceBEq, ek]
            (repeat' first | exact flat144 _ _ _ _ | exact flat23 _ _ | exact flat135 _ _ _ _ | exact flat147 _ _ _ _ | refine And.intro ?_ ?_)
            have hE : frmEq F H = false := by simp only [frmEq_item, ht, hi, ek, decide_true, Bool.true_and, Bool.false_and]
            rw [hE]
            refine SQ.answer (rs := [.tmp 4]) rfl rfl ?_
            simp -dsimp (decide := true) (disch := first | omega | simp (decide := true) only [rencpb0]) only [rencpb4, ↓brun_b, Nat.reduceAdd, rho]
          | true =>
            cases ep : (decide (F.who.l = H.who.l) && decide (F.pn = H.pn)) with
            | false =>
              simp -dsimp (decide := true) (disch := first | omega | simp (decide := true) only [rencpb0]) only [rencpb3, ↓brun_b, reduceIte, Nat.reduceAdd, Nat.reduceBEq, sBin_agg .eql 144 _ _ _ (ceq144 _ _ _ _), ek, ep]
              (repeat' first | exact flat144 _ _ _ _ | exact flat23 _ _ | exact flat135 _ _ _ _ | exact flat147 _ _ _ _ | refine And.intro ?_ ?_)
              have hE : frmEq F H = false := by simp only [frmEq_item, ht, hi, ek, ep, decide_true, Bool.true_and, Bool.false_and]
              rw [hE]
              refine SQ.answer (rs := [.tmp 4]) rfl rfl ?_
              simp -dsimp (decide := true) (disch := first | omega | simp (decide := true) only [rencpb0]) only [rencpb4, ↓brun_b, Nat.reduceAdd, rho]
            | true =>
              cases et : decide (F.toA = H.toA) with
              | false =>
                simp -dsimp (decide := true) (disch := first | omega | simp (decide := true) only [rencpb0]) only [rencpb3, ↓brun_b, reduceIte, Nat.reduceAdd, Nat.reduceBEq, sBin_agg .eql 144 _ _ _ (ceq144 _ _ _ _), hb, ek, ep, et]
                (repeat' first | exact flat144 _ _ _ _ | exact flat23 _ _ | exact flat135 _ _ _ _ | exact flat147 _ _ _ _ | refine And.intro ?_ ?_)
                have hE : frmEq F H = false := by simp only [frmEq_item, ht, hi, ek, ep, et, decide_true, Bool.true_and, Bool.false_and]
                rw [hE]
                refine SQ.answer (rs := [.tmp 4]) rfl rfl ?_
                simp -dsimp (decide := true) (disch := first | omega | simp (decide := true) only [rencpb0]) only [rencpb4, ↓brun_b, Nat.reduceAdd, rho]
              | true =>
                cases ea : decide (F.a.l = H.a.l) with
                | false =>
                  simp -dsimp (decide := true) (disch := first | omega | simp (decide := true) only [rencpb0]) only [rencpb3, ↓brun_b, reduceIte, Nat.reduceAdd, Nat.reduceBEq, sBin_agg .eql 23 _ _ _ (I16.cellsEq _ _), sBin_agg .eql 144 _ _ _ (ceq144 _ _ _ _), hb, ek, ep, et, ea]
                  (repeat' first | exact flat144 _ _ _ _ | exact flat23 _ _ | exact flat135 _ _ _ _ | exact flat147 _ _ _ _ | refine And.intro ?_ ?_)
                  have hE : frmEq F H = false := by simp only [frmEq_item, ht, hi, ek, ep, et, ea, decide_true, Bool.true_and, Bool.false_and]
                  rw [hE]
                  refine SQ.answer (rs := [.tmp 4]) rfl rfl ?_
                  simp -dsimp (decide := true) (disch := first | omega | simp (decide := true) only [rencpb0]) only [rencpb4, ↓brun_b, Nat.reduceAdd, rho]
                | true =>
                  cases eb : decide (F.b.l = H.b.l) with
                  | false =>
                    simp -dsimp (decide := true) (disch := first | omega | simp (decide := true) only [rencpb0]) only [rencpb3, ↓brun_b, reduceIte, Nat.reduceAdd, Nat.reduceBEq, sBin_agg .eql 23 _ _ _ (I16.cellsEq _ _), sBin_agg .eql 144 _ _ _ (ceq144 _ _ _ _), hb, ek, ep, et, ea, eb]
                    (repeat' first | exact flat144 _ _ _ _ | exact flat23 _ _ | exact flat135 _ _ _ _ | exact flat147 _ _ _ _ | refine And.intro ?_ ?_)
                    have hE : frmEq F H = false := by simp only [frmEq_item, ht, hi, ek, ep, et, ea, eb, decide_true, Bool.true_and, Bool.false_and]
                    rw [hE]
                    refine SQ.answer (rs := [.tmp 4]) rfl rfl ?_
                    simp -dsimp (decide := true) (disch := first | omega | simp (decide := true) only [rencpb0]) only [rencpb4, ↓brun_b, Nat.reduceAdd, rho]
                  | true =>
                    cases en : decide (F.n = H.n) with
                    | false =>
                      simp -dsimp (decide := true) (disch := first | omega | simp (decide := true) only [rencpb0]) only [rencpb3, ↓brun_b, reduceIte, Nat.reduceAdd, Nat.reduceBEq, sBin_agg .eql 23 _ _ _ (I16.cellsEq _ _), sBin_agg .eql 144 _ _ _ (ceq144 _ _ _ _), hb, ek, ep, et, ea, eb, en]
                      (repeat' first | exact flat144 _ _ _ _ | exact flat23 _ _ | exact flat135 _ _ _ _ | exact flat147 _ _ _ _ | refine And.intro ?_ ?_)
                      have hE : frmEq F H = false := by simp only [frmEq_item, ht, hi, ek, ep, et, ea, eb, en, decide_true, Bool.true_and, Bool.false_and]
                      rw [hE]
                      refine SQ.answer (rs := [.tmp 4]) rfl rfl ?_
                      simp -dsimp (decide := true) (disch := first | omega | simp (decide := true) only [rencpb0]) only [rencpb4, ↓brun_b, Nat.reduceAdd, rho]
                    | true =>
                      cases ef : (decide (F.fi = H.fi) && decide (F.fn = H.fn)) with
                      | false =>
                        simp -dsimp (decide := true) (disch := first | omega | simp (decide := true) only [rencpb0]) only [rencpb3, ↓brun_b, reduceIte, Nat.reduceAdd, Nat.reduceBEq, sBin_agg .eql 23 _ _ _ (I16.cellsEq _ _), sBin_agg .eql 135 _ _ _ (ceq135 _ _ _ _), sBin_agg .eql 144 _ _ _ (ceq144 _ _ _ _), hb, ek, ep, et, ea, eb, en, ef]
                        (repeat' first | exact flat144 _ _ _ _ | exact flat23 _ _ | exact flat135 _ _ _ _ | exact flat147 _ _ _ _ | refine And.intro ?_ ?_)
                        have hE : frmEq F H = false := by simp only [frmEq_item, ht, hi, ek, ep, et, ea, eb, en, ef, decide_true, Bool.true_and, Bool.false_and]
                        rw [hE]
                        refine SQ.answer (rs := [.tmp 4]) rfl rfl ?_
                        simp -dsimp (decide := true) (disch := first | omega | simp (decide := true) only [rencpb0]) only [rencpb4, ↓brun_b, Nat.reduceAdd, rho]
                      | true =>
                        cases eg : (decide (F.ti = H.ti) && decide (F.tn = H.tn)) with
                        | false =>
                          simp -dsimp (decide := true) (disch := first | omega | simp (decide := true) only [rencpb0]) only [rencpb3, ↓brun_b, reduceIte, Nat.reduceAdd, Nat.reduceBEq, sBin_agg .eql 23 _ _ _ (I16.cellsEq _ _), sBin_agg .eql 135 _ _ _ (ceq135 _ _ _ _), sBin_agg .eql 144 _ _ _ (ceq144 _ _ _ _), hb, ek, ep, et, ea, eb, en, ef, eg]
                          (repeat' first | exact flat144 _ _ _ _ | exact flat23 _ _ | exact flat135 _ _ _ _ | exact flat147 _ _ _ _ | refine And.intro ?_ ?_)
                          have hE : frmEq F H = false := by simp only [frmEq_item, ht, hi, ek, ep, et, ea, eb, en, ef, eg, decide_true, Bool.true_and, Bool.false_and]
                          rw [hE]
                          refine SQ.answer (rs := [.tmp 4]) rfl rfl ?_
                          simp -dsimp (decide := true) (disch := first | omega | simp (decide := true) only [rencpb0]) only [rencpb4, ↓brun_b, Nat.reduceAdd, rho]
                        | true =>
                          cases ei : itemEq F H with
                          | false =>
                            simp -dsimp (decide := true) (disch := first | omega | simp (decide := true) only [rencpb0]) only [rencpb3, ↓brun_b, reduceIte, Nat.reduceAdd, Nat.reduceBEq, sBin_agg .eql 23 _ _ _ (I16.cellsEq _ _), sBin_agg .eql 135 _ _ _ (ceq135 _ _ _ _), sBin_agg .eql 144 _ _ _ (ceq144 _ _ _ _), hb, ek, ep, et, ea, eb, en, ef, eg]
                            (repeat' first | exact flat144 _ _ _ _ | exact flat23 _ _ | exact flat135 _ _ _ _ | exact flat147 _ _ _ _ | refine And.intro ?_ ?_)
                            refine SemOps.callq (k := 1000) cal.f139 (sameItem_calls F H) rfl rfl rfl rfl (by simp only [bflat_a, IC.flat]) (by simp only [bflat_a]) (by simp -dsimp (decide := true) (disch := first | omega | simp (decide := true) only [rencpb0]) only [rencpb8]) ?_
                            simp -dsimp (decide := true) (disch := first | omega | simp (decide := true) only [rencpb0]) only [rencpb3, ↓brun_b, Nat.reduceAdd, Nat.reduceBEq, ei]
                            have hE : frmEq F H = false := by simp only [frmEq_item, ht, hi, ek, ep, et, ea, eb, en, ef, eg, ei, decide_true, Bool.true_and, Bool.false_and]
                            rw [hE]
                            refine SQ.answer (rs := [.tmp 4]) rfl rfl ?_
                            simp -dsimp (decide := true) (disch := first | omega | simp (decide := true) only [rencpb0]) only [rencpb4, ↓brun_b, Nat.reduceAdd, rho]
                          | true =>
                            cases eo : decide (F.op = H.op) with
                            | false =>
                              simp -dsimp (decide := true) (disch := first | omega | simp (decide := true) only [rencpb0]) only [rencpb3, ↓brun_b, reduceIte, Nat.reduceAdd, Nat.reduceBEq, sBin_agg .eql 23 _ _ _ (I16.cellsEq _ _), sBin_agg .eql 135 _ _ _ (ceq135 _ _ _ _), sBin_agg .eql 144 _ _ _ (ceq144 _ _ _ _), hb, ek, ep, et, ea, eb, en, ef, eg]
                              (repeat' first | exact flat144 _ _ _ _ | exact flat23 _ _ | exact flat135 _ _ _ _ | exact flat147 _ _ _ _ | refine And.intro ?_ ?_)
                              refine SemOps.callq (k := 1000) cal.f139 (sameItem_calls F H) rfl rfl rfl rfl (by simp only [bflat_a, IC.flat]) (by simp only [bflat_a]) (by simp -dsimp (decide := true) (disch := first | omega | simp (decide := true) only [rencpb0]) only [rencpb8]) ?_
                              simp -dsimp (decide := true) (disch := first | omega | simp (decide := true) only [rencpb0]) only [rencpb3, ↓brun_b, Nat.reduceAdd, Nat.reduceBEq, ei, eo]
                              have hE : frmEq F H = false := by simp only [frmEq_item, ht, hi, ek, ep, et, ea, eb, en, ef, eg, ei, eo, decide_true, Bool.true_and, Bool.false_and]
                              rw [hE]
                              refine SQ.answer (rs := [.tmp 4]) rfl rfl ?_
                              simp -dsimp (decide := true) (disch := first | omega | simp (decide := true) only [rencpb0]) only [rencpb4, ↓brun_b, Nat.reduceAdd, rho]
                            | true =>
                              cases el : decide (F.ttl = H.ttl) with
                              | false =>
                                simp -dsimp (decide := true) (disch := first | omega | simp (decide := true) only [rencpb0]) only [rencpb3, ↓brun_b, reduceIte, Nat.reduceAdd, Nat.reduceBEq, sBin_agg .eql 23 _ _ _ (I16.cellsEq _ _), sBin_agg .eql 135 _ _ _ (ceq135 _ _ _ _), sBin_agg .eql 144 _ _ _ (ceq144 _ _ _ _), hb, ek, ep, et, ea, eb, en, ef, eg]
                                (repeat' first | exact flat144 _ _ _ _ | exact flat23 _ _ | exact flat135 _ _ _ _ | exact flat147 _ _ _ _ | refine And.intro ?_ ?_)
                                refine SemOps.callq (k := 1000) cal.f139 (sameItem_calls F H) rfl rfl rfl rfl (by simp only [bflat_a, IC.flat]) (by simp only [bflat_a]) (by simp -dsimp (decide := true) (disch := first | omega | simp (decide := true) only [rencpb0]) only [rencpb8]) ?_
                                simp -dsimp (decide := true) (disch := first | omega | simp (decide := true) only [rencpb0]) only [rencpb3, ↓brun_b, Nat.reduceAdd, Nat.reduceBEq, ei, eo, el]
                                have hE : frmEq F H = false := by simp only [frmEq_item, ht, hi, ek, ep, et, ea, eb, en, ef, eg, ei, eo, el, decide_true, Bool.true_and, Bool.false_and]
                                rw [hE]
                                refine SQ.answer (rs := [.tmp 4]) rfl rfl ?_
                                simp -dsimp (decide := true) (disch := first | omega | simp (decide := true) only [rencpb0]) only [rencpb4, ↓brun_b, Nat.reduceAdd, rho]
                              | true =>
                                simp -dsimp (decide := true) (disch := first | omega | simp (decide := true) only [rencpb0]) only [rencpb3, ↓brun_b, reduceIte, Nat.reduceAdd, Nat.reduceBEq, sBin_agg .eql 23 _ _ _ (I16.cellsEq _ _), sBin_agg .eql 135 _ _ _ (ceq135 _ _ _ _), sBin_agg .eql 144 _ _ _ (ceq144 _ _ _ _), hb, ek, ep, et, ea, eb, en, ef, eg]
                                (repeat' first | exact flat144 _ _ _ _ | exact flat23 _ _ | exact flat135 _ _ _ _ | exact flat147 _ _ _ _ | refine And.intro ?_ ?_)
                                refine SemOps.callq (k := 1000) cal.f139 (sameItem_calls F H) rfl rfl rfl rfl (by simp only [bflat_a, IC.flat]) (by simp only [bflat_a]) (by simp -dsimp (decide := true) (disch := first | omega | simp (decide := true) only [rencpb0]) only [rencpb8]) ?_
                                simp -dsimp (decide := true) (disch := first | omega | simp (decide := true) only [rencpb0]) only [rencpb3, ↓brun_b, Nat.reduceAdd, Nat.reduceBEq, ei, eo, el]
                                have hE : frmEq F H = decide (F.tx = H.tx) := by simp only [frmEq_item, ht, hi, ek, ep, et, ea, eb, en, ef, eg, ei, eo, el, decide_true, Bool.true_and]
                                rw [hE]
                                refine SQ.answer (rs := [.tmp 4]) rfl rfl ?_
                                simp -dsimp (decide := true) (disch := first | omega | simp (decide := true) only [rencpb0]) only [rencpb4, ↓brun_b, Nat.reduceAdd, rho]
end Go.Proofs
namespace Go.SL
open Go
def sslice9 (P : Program) (d : Option TypeDesc) (row : List SV) (k : Nat) (lo hi : Option SV) : Option SO := match d, lo, hi with
  | some (.array n elem), none, none => if tsz P elem = some 1 then some ⟨.rsl 1 (((row.drop k).take n).map fun x => [x]), {}, k + n ≤ row.length⟩ else none
  | _, _, _ => none
theorem sSlice_rp {P : Program} {get : Nat → Option SK} (t : TypeId) (row : List SV) (k : Nat) (lo hi : Option SV) : sSlice P get t (.rp row k) lo hi = sslice9 P (P.underlying t) row k lo hi := Eq.trans rfl rfl
def sslice10 (s : Option Nat) (row : List SV) (k n : Nat) : Option SO := if s = some 1 then some ⟨.rsl 1 (((row.drop k).take n).map fun x => [x]), {}, k + n ≤ row.length⟩ else none
theorem sslice9_arr {P : Program} (n : Nat) (elem : TypeId) (row : List SV) (k : Nat) : sslice9 P (some (.array n elem)) row k none none = sslice10 (tsz P elem) row k n := Eq.trans rfl rfl
theorem sslice10_one (row : List SV) (k n : Nat) : sslice10 (some 1) row k n = some ⟨.rsl 1 (((row.drop k).take n).map fun x => [x]), {}, k + n ≤ row.length⟩ := Eq.trans rfl rfl
end Go.SL
namespace Go.Proofs
open Go Go.SL
set_option maxRecDepth 100000
def rencpb9 :=
  (aI (aI (aI rencpc1 (aI rencpc2 rencpc3)) (aI @FC.c_length (aI @I16.c_length @IC.at_val))) (aI (aI @IC.c_length (aI @IC.part_key @IC.part_ver)) (aI @idrs_len (aI @lrows_length @tab.u36))))
def rencpb10 :=
  (aI rencpc3 @tab.u36)
def rencpb11 :=
  (aI (aI (aI (aI rencpc1 rencpc2) (aI rencpc3 @FC.c_length)) (aI (aI @I16.c_length @IC.at_val) (aI @IC.c_length @IC.part_key))) (aI (aI (aI @IC.part_ver @bwk_a) (aI @eq_self.{1} @forall_const.{1})) (aI (aI @idrs_len @implies_true.{0}) (aI @implies_true.{1} (aI @lrows_length @tab.u36)))))
theorem num150 (x : Int) (h : 0 ≤ x ∧ x < 9223372036854775808) : Pure Try.prog 150 [.v (.int .i64 x)] (bsl (N x)) := by
  obtain ⟨n, rfl⟩ : ∃ n : Nat, x = (n : Int) := ⟨x.toNat, by omega⟩
  rw [N_nat]
  have hw : IntKind.u64.wrap (n : Int) = (n : Int) := wrap_u64 _ (by omega)
  have hl := form_le n (by omega)
  refine SCall.mk (fn := Try.f150) (by kernel_rfl) rfl (Nat.le_of_ble_eq_true (by kernel_rfl)) ?_
  refine Sem.go (k := 1000) ?_
  simp -dsimp (decide := true) (disch := first | omega | simp (decide := true) only [rencpb0]) only [rencpb9, ↓brun_b, envOf, Nat.reduceBEq, hw]
  refine SemOps.callo (k := 1000) cal.f45 (num_owns n (by omega)) rfl rfl rfl rfl (by simp only [bflat_a]) (brow_flat _) (by simp -dsimp (decide := true) (disch := first | omega | simp (decide := true) only [rencpb0]) only [rencpb10]) ?_
  simp -dsimp (decide := true) (disch := first | omega | simp (decide := true) only [rencpb0]) only [rencpb9, ↓brun_b]
  refine SQ.answer (rs := [.tmp 2]) rfl rfl ?_
  simp -dsimp (decide := true) (disch := first | omega | simp (decide := true) only [rencpb0]) only [rencpb11, ↓brun_b, rho]
  exact Ent_row rfl rfl (brows_length _).symm (by omega) fun i r hr => by
    obtain ⟨h1, rfl⟩ := brows_get hr
    rw [Nat.zero_add]
    exact EntL.self rfl
theorem text46 (t : List UInt8) (ht : t.length + 9 ≤ 140737488355328) : Pure Try.prog 46 [bsl t] (bsl (txB t)) :=
  SCall.tell [] (text_owns t ht) ⟨rfl, rfl, rfl, rfl, rfl, rfl, ⟨Ent_row rfl rfl (brows_length _).symm (by omega) fun i r hr => by
    obtain ⟨h1, rfl⟩ := brows_get hr
    rw [Nat.zero_add]
    exact EntL.self rfl, trivial⟩, trivial⟩
end Go.Proofs
namespace Go.Proofs
open Go Go.SL
set_option maxRecDepth 100000
theorem app_row {f g : Nat → List SV} {a b : List UInt8} {n e : Nat} (hn : a.length = n) (hf : ∀ e, e < n → f e = brow a e) (hg : ∀ j, j < b.length → g j = brow b j) (he : e < n + b.length) : (if e < n then f e else g (e - n)) = brow (a ++ b) e := by
  subst hn
  rw [← brow_app2 a b e he]
  by_cases h : e < a.length
  · rw [if_pos h, if_pos h]; exact hf e h
  · rw [if_neg h, if_neg h]; exact hg _ (by omega)
theorem entL_eq {fz : Nat → Option SB} {ρ : Nat → Nat} {b : List UInt8} {e : Nat} {r : List SV} (h : r = brow b e) : EntL fz ρ (brow b e) r := by rw [h]; exact EntL.self (brow_flat _ _)
theorem cellAt_get : ∀ (L : List SV) (k : Nat) (h : k < L.length), cellAt L k = L[k]
  | _ :: _, 0, _ => rfl
  | _ :: l, k + 1, h => cellAt_get l k (by simpa using h)
theorem id_at {L : List SV} {k : Nat} {x : I16} (h : spart true L k 16 = .agg x.c) (j : Nat) (hj : j < (iB x).length) : [cellAt L (k + j)] = brow (iB x) j := by
  have hj' : j < 16 := by rw [iB_length] at hj; exact hj
  rw [iB_row x j hj']
  have h2 : (L.drop k).take 16 = x.c := by
    have := h
    unfold spart at this
    simp only [if_true] at this
    injection this
  have hl : j < ((L.drop k).take 16).length := by rw [h2, I16.c_length]; exact hj'
  have hl2 : k + j < L.length := by rw [List.length_take, List.length_drop] at hl; omega
  rw [← h2, cellAt_get _ _ hl, cellAt_get _ _ hl2, List.getElem_take, List.getElem_drop]
theorem idc_rows (x : I16) : (x.c.take 16).map (fun v => [v]) = brows (iB x) := by
  refine List.ext_getElem? fun i => ?_
  by_cases h : i < 16
  · have h1 : (brows (iB x))[i]? = some (brow (iB x) i) := by
      have := brows_at (iB x) i (by rw [iB_length]; exact h)
      rw [List.getD_eq_getElem?_getD, List.getElem?_eq_getElem (by rw [brows_length, iB_length]; exact h), Option.getD_some] at this
      rw [List.getElem?_eq_getElem (by rw [brows_length, iB_length]; exact h), this]
    rw [h1, iB_row x i h, List.getElem?_map, List.getElem?_take_of_lt h, List.getElem?_eq_getElem (by rw [I16.c_length]; exact h)]
    rw [Option.map_some, cellAt_get _ _ (by rw [I16.c_length]; exact h)]
  · rw [List.getElem?_eq_none (by rw [List.length_map, List.length_take]; omega), List.getElem?_eq_none (by rw [brows_length, iB_length]; omega)]
theorem bs35a (N : Nat) : sBuildSlice Try.prog N 35 1 [(0, .v (.int .u8 0))] = some ⟨.slc N 0 1, ⟨none, some (.row ⟨1, 1, true, 5, fun e => ([SV.v (.int .u8 0)].drop (e * 1)).take 1⟩)⟩, True⟩ := by kernel_rfl
theorem bs35b (N : Nat) : sBuildSlice Try.prog N 35 2 [(0, .v (.int .u8 1)), (1, .v (.int .u8 1))] = some ⟨.slc N 0 2, ⟨none, some (.row ⟨1, 2, true, 5, fun e => ([SV.v (.int .u8 1), SV.v (.int .u8 1)].drop (e * 1)).take 1⟩)⟩, True⟩ := by kernel_rfl
def encB (F : Frm) (c : UInt8) : List UInt8 :=
  if c = 102 then N F.fi ++ N F.fn else if c = 116 then N F.ti ++ N F.tn else if c = 110 then N F.n else if c = 112 then iB F.who ++ N F.pn else if c = 97 then iB F.a else if c = 98 then iB F.b
  else if c = 100 then flB F.toA else if c = 114 then N (F.tr.length : Int) ++ nB F.tr else if c = 115 then N (F.is.length : Int) ++ idsB F.is
  else if c = 105 then iB F.key ++ N F.vn ++ iB F.vwho ++ txB F.val else if c = 107 then iB F.key ++ N F.vn ++ iB F.vwho else if c = 108 ∨ c = 111 then N F.op else if c = 119 then N F.ttl else if c = 120 ∨ c = 121 then txB F.tx else []
def outG (F : Frm) (l : List UInt8) : List UInt8 := N F.kind ++ l.flatMap (encB F)
theorem outG_take (F : Frm) (l : List UInt8) (i : Nat) (h : i < l.length) : outG F (l.take (i + 1)) = outG F (l.take i) ++ encB F (l.getD i 0) := by
  unfold outG
  rw [List.take_add_one, List.flatMap_append, List.getD_eq_getElem?_getD, List.getElem?_eq_getElem h, ← List.append_assoc]
  simp
theorem idsB_le (l : List I16) (k : Nat) : (idsB (l.take k)).length ≤ (idsB l).length := by
  rw [idsB_length, idsB_length, List.length_take]
  omega
theorem outG_le (F : Frm) (l : List UInt8) (k : Nat) : (outG F (l.take k)).length ≤ (outG F l).length := by
  have : outG F l = outG F (l.take k) ++ (l.drop k).flatMap (encB F) := by unfold outG; rw [List.append_assoc, ← List.flatMap_append, List.take_append_drop]
  rw [this, List.length_append]
  omega
def lim (F : Frm) (c : UInt8) : Prop :=
  if c = 102 then (0 ≤ F.fi ∧ F.fi < 9223372036854775808) ∧ (0 ≤ F.fn ∧ F.fn < 9223372036854775808) else if c = 116 then (0 ≤ F.ti ∧ F.ti < 9223372036854775808) ∧ (0 ≤ F.tn ∧ F.tn < 9223372036854775808)
  else if c = 110 then 0 ≤ F.n ∧ F.n < 9223372036854775808 else if c = 112 then 0 ≤ F.pn ∧ F.pn < 9223372036854775808
  else if c = 114 then F.tr.length ≤ 64 ∧ ∀ v ∈ F.tr, 0 ≤ v ∧ v < 6 else if c = 115 then F.is.length ≤ 16
  else if c = 105 then (0 ≤ F.vn ∧ F.vn < 9223372036854775808) ∧ F.val.length ≤ 64 else if c = 107 then 0 ≤ F.vn ∧ F.vn < 9223372036854775808 else if c = 108 ∨ c = 111 then 0 ≤ F.op ∧ F.op < 9223372036854775808
  else if c = 119 then 0 ≤ F.ttl ∧ F.ttl < 9223372036854775808 else if c = 120 ∨ c = 121 then F.tx.length ≤ 4096 else True
def restE (fn : Func) : Option Go.Code :=
  match fn.body with
  | some (Go.Code.seq _ (Go.Code.seq _ (Go.Code.seq _ (Go.Code.seq _ (Go.Code.seq _ (Go.Code.seq c _)))))) => some c
  | _ => none
def rencpc6 :=
  (aI (aI (aI @bs35a @bs35b) (aI @idc_rows @sSlice_rp)) (aI (aI @sSrc_asl @sslice10_one) (aI @sslice9_arr @ssrc2_row)))
def rencpb12 :=
  (aI (aI (aI (aI rencpc1 rencpc2) (aI rencpc3 rencpc6)) (aI (aI rencpc5 rencpc4) (aI @FC.c_length @I16.c_length))) (aI (aI (aI @IC.at_val @IC.c_length) (aI @IC.part_key @IC.part_ver)) (aI (aI @idrs_len @lrow_cell) (aI @lrow_len @lrows_length))))
def rencpb13 :=
  (aI (aI (aI (aI rencpc1 rencpc2) (aI rencpc3 (aI rencpc6 rencpc5))) (aI (aI rencpc4 @FC.c_length) (aI @I16.c_length (aI @IC.at_val @IC.c_length)))) (aI (aI (aI @IC.part_key @IC.part_ver) (aI @bwk_a (aI @eq_self.{1} @forall_const.{1}))) (aI (aI @idrs_len (aI @implies_true.{0} @implies_true.{1})) (aI @lrow_cell (aI @lrow_len @lrows_length)))))
def rencpb14 :=
  (aI (aI (aI (aI rencpc1 rencpc2) (aI rencpc3 (aI rencpc6 rencpc5))) (aI (aI rencpc4 (aI @FC.c_length @I16.c_length)) (aI @IC.at_val (aI @IC.c_length @IC.part_key)))) (aI (aI (aI @IC.part_ver @bwk_a) (aI @eq_self.{1} (aI @forall_const.{1} @iB_length))) (aI (aI @idrs_len (aI @implies_true.{0} @implies_true.{1})) (aI @lrow_cell (aI @lrow_len @lrows_length)))))
def rencpb15 :=
  (aI (aI (aI (aI rencpc1 rencpc2) (aI rencpc3 (aI rencpc6 rencpc5))) (aI (aI rencpc4 (aI @FC.c_length @I16.c_length)) (aI @IC.at_val (aI @IC.c_length @IC.part_key)))) (aI (aI (aI @IC.part_ver (aI @List.length_cons.{0} @List.length_nil.{0})) (aI @bwk_a (aI @eq_self.{1} @forall_const.{1}))) (aI (aI @idrs_len (aI @implies_true.{0} @implies_true.{1})) (aI @lrow_cell (aI @lrow_len @lrows_length)))))
set_option maxHeartbeats 16000000 in
theorem eloop (F : Frm) (l : List UInt8) (hl : l.length < 100) (hs : ∀ c ∈ l, isLet c = true) (hlim : ∀ c ∈ l, lim F c) (hlen : (outG F l).length ≤ 1000000) (h8 : F.tr.length < 4611686018427387904) (h9 : F.is.length < 4611686018427387904) (R : SX → St → Prop) (K : List It) (c : Go.Code) (hc : restE Try.f115 = some c) :
    Go.SL.Sem Try.prog R (.code c :: .inv (fun s' => ∃ l', Wk l' s' ⟨211, 0, [(1, .ptr 0 0 0), (6, .slc 1 0 (outG F l).length), (7, .v (.string ⟨l.toArray⟩)), (8, .v (.int .i64 (l.length : Int)))], [some (.row ⟨95, 1, true, 151, fun _ => F.fc.c⟩), some (.row ⟨1, (outG F l).length, true, 5, brow (outG F l)⟩)]⟩) :: K) ⟨211, 0, [(1, .ptr 0 0 0), (6, .slc 1 0 (N F.kind).length), (7, .v (.string ⟨l.toArray⟩))], [some (.row ⟨95, 1, true, 151, fun _ => F.fc.c⟩), some (.row ⟨1, (N F.kind).length, true, 5, brow (N F.kind)⟩)]⟩ := by
  cases hc
  refine Sem.go (k := 1000) ?_
  simp -dsimp (decide := true) (disch := first | omega | simp (decide := true) only [rencpb0]) only [rencpb12, ↓brun_b, Nat.reduceAdd, Frm.fc]
  refine Sem.loop (ι := {i : Nat // i ≤ l.length}) (fun i => ⟨211, 0, [(1, .ptr 0 0 0), (6, .slc 1 0 (outG F (l.take i.1)).length), (7, .v (.string ⟨l.toArray⟩)), (8, .v (.int .i64 (i.1 : Int)))], [some (.row ⟨95, 1, true, 151, fun _ => F.fc.c⟩), some (.row ⟨1, (outG F (l.take i.1)).length, true, 5, brow (outG F (l.take i.1))⟩)]⟩) (fun i => l.length - i.1) ⟨0, Nat.zero_le _⟩ [0, 1] ?_ ?_
  · have h0 : outG F (l.take 0) = N F.kind := by simp [outG]
    (refine Wk.ofC ?_; simp -dsimp (decide := true) (disch := first | omega | simp (decide := true) only [rencpb0]) only [rencpb13, ↓brun_b, Nat.reduceAdd, Nat.reduceBEq, Frm.fc, h0])
  · rintro ⟨i, hi⟩
    refine Sem.go (k := 1000) ?_
    have bsz : (⟨l.toArray⟩ : ByteArray).size = l.length := rfl
    simp -dsimp (decide := true) (disch := first | omega | simp (decide := true) only [rencpb0]) only [rencpb12, ↓brun_b, Nat.reduceAdd, Nat.reduceBEq, Frm.fc, bsz]
    refine SCond.split (fun h1 => ?_) (fun h1 => ?_)
    rotate_left
    · simp only [decide_eq_false_iff_not] at h1
      obtain rfl : i = l.length := by omega
      simp -dsimp (decide := true) (disch := first | omega | simp (decide := true) only [rencpb0]) only [rencpb12, reduceIte]
      refine ⟨[0, 1], ?_⟩
      (refine Wk.ofC ?_; simp -dsimp (decide := true) (disch := first | omega | simp (decide := true) only [rencpb0]) only [rencpb13, ↓brun_b, Nat.reduceAdd, Nat.reduceBEq])
    simp only [decide_eq_true_eq] at h1
    have hi' : i < l.length := by omega
    have hwk : IntKind.i64.wrap ((i : Int) + 1) = ((i + 1 : Nat) : Int) := by rw [wrap_i64 _ (by omega)]; rfl
    have hmem : l.getD i 0 ∈ l := by rw [List.getD_eq_getElem?_getD, List.getElem?_eq_getElem hi', Option.getD_some]; exact List.getElem_mem hi'
    have hc := hs _ hmem
    have hm := hlim _ hmem
    have hGb := outG_take F l i hi'
    have hle : (outG F (l.take (i + 1))).length ≤ 1000000 := Nat.le_trans (outG_le F l (i + 1)) hlen
    have hch := strAt_form l i
    rw [hGb, List.length_append] at hle
    generalize outG F (l.take i) = A at *
    generalize l.getD i 0 = c at *
    have hcs : c = 102 ∨ c = 116 ∨ c = 110 ∨ c = 112 ∨ c = 97 ∨ c = 98 ∨ c = 100 ∨ c = 114 ∨ c = 115 ∨ c = 105 ∨ c = 107 ∨ c = 108 ∨ c = 111 ∨ c = 119 ∨ c = 120 ∨ c = 121 := by
      unfold isLet at hc
      simpa using hc
    rcases hcs with rfl | rfl | rfl | rfl | rfl | rfl | rfl | rfl | rfl | rfl | rfl | rfl | rfl | rfl | rfl | rfl
    · replace hch : strAt ⟨l.toArray⟩ i = 102 := hch
      have hE : encB F 102 = N F.fi ++ N F.fn := rfl
      rw [hE] at hGb hle
      try simp only [List.length_append] at hle
      have c1 := num150 F.fi hm.1
      have c2 := num150 F.fn hm.2
      simp -dsimp (decide := true) (disch := first | omega | simp (decide := true) only [rencpb0]) only [rencpb12, ↓brun_b, Nat.reduceAdd, Nat.reduceBEq, hch, bsz]
      (repeat' refine And.intro (by omega) ?_)
      refine Sem.draw' (by kernel_rfl) (.one 0 (.one 1 (.one 2 (.one 3 (.one 6 (.one 7 (.one 8 (.alt 4 (.alt 5 (.alt 9 (.alt 10 (.one 11 .done) .non) .non) .non) .non)))))))) [1] (by kernel_rfl) (fun G ff hG hf => ?_)
      simp (decide := true) only [rencpb6, Nat.reduceAdd] at hG ⊢
      simp -dsimp (decide := true) (disch := first | omega | simp (decide := true) only [rencpb0]) only [rencpb12, ↓brun_b, Nat.reduceAdd, Nat.reduceBEq, hG]
      (repeat' refine And.intro ?_ ?_)
      all_goals first | omega | skip
      all_goals
        refine OpSem.callq cal.f150 (c1) rfl rfl rfl (by simp only [bflat_a]) (by simp only [bflat_a]) (by simp -dsimp (decide := true) (disch := first | omega | simp (decide := true) only [rencpb0]) only [rencpb8]) ?_
        simp -dsimp (decide := true) (disch := first | omega | simp (decide := true) only [rencpb0]) only [rencpb12, ↓brun_b, Nat.reduceAdd, Nat.reduceBEq, sapp1_sl el5]
        (repeat' refine And.intro (by omega) ?_)
        refine OpSem.callq cal.f150 (c2) rfl rfl rfl (by simp only [bflat_a]) (by simp only [bflat_a]) (by simp -dsimp (decide := true) (disch := first | omega | simp (decide := true) only [rencpb0]) only [rencpb8]) ?_
        simp -dsimp (decide := true) (disch := first | omega | simp (decide := true) only [rencpb0]) only [rencpb12, ↓brun_b, Nat.reduceAdd, Nat.reduceBEq, sapp1_sl el5]
        (repeat' refine And.intro (by omega) ?_)
        refine hf _ (Sem.go (k := 1000) ?_)
        simp (decide := true) only [back_mk, backL_in, backL_row, backL_nil, Nat.zero_add, Nat.reduceAdd]
        simp -dsimp (decide := true) (disch := first | omega | simp (decide := true) only [rencpb0]) only [rencpb12, ↓brun_b, Nat.reduceAdd, Nat.reduceBEq, hwk]
        refine ⟨⟨i + 1, by omega⟩, [0, 3], ?_, by show l.length - (i + 1) < l.length - i; omega⟩
        have hGc : outG F (l.take (i + 1)) = ((A ++ N F.fi) ++ N F.fn) := by rw [hGb] <;> simp only [List.append_assoc]
        (refine Wk.ofC ?_; simp -dsimp (decide := true) (disch := first | omega | simp (decide := true) only [rencpb0]) only [rencpb14, ↓brun_b, Nat.reduceAdd, Nat.reduceBEq, hGc, List.length_append])
        intro e he
        exact entL_eq (app_row (g := fun j => (brows (N F.fn)).getD j []) (a := (A ++ N F.fi)) (b := N F.fn) (n := A.length + (N F.fi).length) (by first | rfl | simp only [List.length_append]) (fun e he => app_row (g := fun j => (brows (N F.fi)).getD j []) (a := A) (b := N F.fi) (n := A.length) (by first | rfl | simp only [List.length_append, iB_length]) (fun _ _ => rfl) (fun j hj => brows_at _ j hj) (by first | omega | (simp only [iB_length]; omega))) (fun j hj => brows_at _ j hj) (by first | omega | (simp only [iB_length] at he ⊢; omega)))
    · replace hch : strAt ⟨l.toArray⟩ i = 116 := hch
      have hE : encB F 116 = N F.ti ++ N F.tn := rfl
      rw [hE] at hGb hle
      try simp only [List.length_append] at hle
      have c1 := num150 F.ti hm.1
      have c2 := num150 F.tn hm.2
      simp -dsimp (decide := true) (disch := first | omega | simp (decide := true) only [rencpb0]) only [rencpb12, ↓brun_b, Nat.reduceAdd, Nat.reduceBEq, hch, bsz]
      (repeat' refine And.intro (by omega) ?_)
      refine Sem.draw' (by kernel_rfl) (.one 0 (.one 1 (.one 2 (.one 3 (.one 6 (.one 7 (.one 8 (.alt 4 (.alt 5 (.alt 9 (.alt 10 (.one 11 .done) .non) .non) .non) .non)))))))) [1] (by kernel_rfl) (fun G ff hG hf => ?_)
      simp (decide := true) only [rencpb6, Nat.reduceAdd] at hG ⊢
      simp -dsimp (decide := true) (disch := first | omega | simp (decide := true) only [rencpb0]) only [rencpb12, ↓brun_b, Nat.reduceAdd, Nat.reduceBEq, hG]
      (repeat' refine And.intro ?_ ?_)
      all_goals first | omega | skip
      all_goals
        refine OpSem.callq cal.f150 (c1) rfl rfl rfl (by simp only [bflat_a]) (by simp only [bflat_a]) (by simp -dsimp (decide := true) (disch := first | omega | simp (decide := true) only [rencpb0]) only [rencpb8]) ?_
        simp -dsimp (decide := true) (disch := first | omega | simp (decide := true) only [rencpb0]) only [rencpb12, ↓brun_b, Nat.reduceAdd, Nat.reduceBEq, sapp1_sl el5]
        (repeat' refine And.intro (by omega) ?_)
        refine OpSem.callq cal.f150 (c2) rfl rfl rfl (by simp only [bflat_a]) (by simp only [bflat_a]) (by simp -dsimp (decide := true) (disch := first | omega | simp (decide := true) only [rencpb0]) only [rencpb8]) ?_
        simp -dsimp (decide := true) (disch := first | omega | simp (decide := true) only [rencpb0]) only [rencpb12, ↓brun_b, Nat.reduceAdd, Nat.reduceBEq, sapp1_sl el5]
        (repeat' refine And.intro (by omega) ?_)
        refine hf _ (Sem.go (k := 1000) ?_)
        simp (decide := true) only [back_mk, backL_in, backL_row, backL_nil, Nat.zero_add, Nat.reduceAdd]
        simp -dsimp (decide := true) (disch := first | omega | simp (decide := true) only [rencpb0]) only [rencpb12, ↓brun_b, Nat.reduceAdd, Nat.reduceBEq, hwk]
        refine ⟨⟨i + 1, by omega⟩, [0, 3], ?_, by show l.length - (i + 1) < l.length - i; omega⟩
        have hGc : outG F (l.take (i + 1)) = ((A ++ N F.ti) ++ N F.tn) := by rw [hGb] <;> simp only [List.append_assoc]
        (refine Wk.ofC ?_; simp -dsimp (decide := true) (disch := first | omega | simp (decide := true) only [rencpb0]) only [rencpb14, ↓brun_b, Nat.reduceAdd, Nat.reduceBEq, hGc, List.length_append])
        intro e he
        exact entL_eq (app_row (g := fun j => (brows (N F.tn)).getD j []) (a := (A ++ N F.ti)) (b := N F.tn) (n := A.length + (N F.ti).length) (by first | rfl | simp only [List.length_append]) (fun e he => app_row (g := fun j => (brows (N F.ti)).getD j []) (a := A) (b := N F.ti) (n := A.length) (by first | rfl | simp only [List.length_append, iB_length]) (fun _ _ => rfl) (fun j hj => brows_at _ j hj) (by first | omega | (simp only [iB_length]; omega))) (fun j hj => brows_at _ j hj) (by first | omega | (simp only [iB_length] at he ⊢; omega)))
    · replace hch : strAt ⟨l.toArray⟩ i = 110 := hch
      have hE : encB F 110 = N F.n := rfl
      rw [hE] at hGb hle
      try simp only [List.length_append, iB_length] at hle
      have c1 := num150 F.n hm
      simp -dsimp (decide := true) (disch := first | omega | simp (decide := true) only [rencpb0]) only [rencpb12, ↓brun_b, Nat.reduceAdd, Nat.reduceBEq, hch, bsz]
      (repeat' refine And.intro (by omega) ?_)
      refine SemOps.callq (k := 1000) cal.f150 (c1) rfl rfl rfl rfl (by simp only [bflat_a]) (by simp only [bflat_a]) (by simp -dsimp (decide := true) (disch := first | omega | simp (decide := true) only [rencpb0]) only [rencpb8]) ?_
      simp -dsimp (decide := true) (disch := first | omega | simp (decide := true) only [rencpb0]) only [rencpb12, ↓brun_b, Nat.reduceAdd, Nat.reduceBEq, sapp1_sl el5, hwk]
      (repeat' refine And.intro (by omega) ?_)
      refine ⟨⟨i + 1, by omega⟩, [0, 2], ?_, by show l.length - (i + 1) < l.length - i; omega⟩
      have hGc : outG F (l.take (i + 1)) = (A ++ N F.n) := by rw [hGb] <;> simp only [List.append_assoc]
      (refine Wk.ofC ?_; simp -dsimp (decide := true) (disch := first | omega | simp (decide := true) only [rencpb0]) only [rencpb14, ↓brun_b, Nat.reduceAdd, Nat.reduceBEq, hGc, List.length_append])
      intro e he
      exact entL_eq (app_row (g := fun j => (brows (N F.n)).getD j []) (a := A) (b := N F.n) (n := A.length) (by first | rfl | simp only [List.length_append, iB_length]) (fun _ _ => rfl) (fun j hj => brows_at _ j hj) (by first | omega | (simp only [iB_length] at he ⊢; omega)))
    · replace hch : strAt ⟨l.toArray⟩ i = 112 := hch
      have hE : encB F 112 = iB F.who ++ N F.pn := rfl
      rw [hE] at hGb hle
      try simp only [List.length_append, iB_length] at hle
      have c2 := num150 F.pn hm
      simp -dsimp (decide := true) (disch := first | omega | simp (decide := true) only [rencpb0]) only [rencpb12, ↓brun_b, Nat.reduceAdd, Nat.reduceBEq, hch, bsz]
      (repeat' refine And.intro (by omega) ?_)
      refine Sem.draw' (by kernel_rfl) (.one 0 (.one 1 (.one 2 (.one 3 (.one 5 (.one 6 (.one 7 (.alt 4 (.alt 8 (.alt 9 (.one 10 .done) .non) .non) .non)))))))) [1] (by kernel_rfl) (fun G ff hG hf => ?_)
      simp (decide := true) only [rencpb6, Nat.reduceAdd] at hG ⊢
      simp -dsimp (decide := true) (disch := first | omega | simp (decide := true) only [rencpb0]) only [rencpb12, ↓brun_b, Nat.reduceAdd, Nat.reduceBEq, Nat.reduceLeDiff, sapp1_sl el5, hG]
      (repeat' refine And.intro ?_ ?_)
      all_goals first | omega | skip
      all_goals
        refine OpSem.callq cal.f150 (c2) rfl rfl rfl (by simp only [bflat_a]) (by simp only [bflat_a]) (by simp -dsimp (decide := true) (disch := first | omega | simp (decide := true) only [rencpb0]) only [rencpb8]) ?_
        simp -dsimp (decide := true) (disch := first | omega | simp (decide := true) only [rencpb0]) only [rencpb12, ↓brun_b, Nat.reduceAdd, Nat.reduceBEq, Nat.reduceLeDiff, sapp1_sl el5]
        (repeat' refine And.intro (by omega) ?_)
        refine hf _ (Sem.go (k := 1000) ?_)
        simp (decide := true) only [back_mk, backL_in, backL_row, backL_nil, Nat.zero_add, Nat.reduceAdd]
        simp -dsimp (decide := true) (disch := first | omega | simp (decide := true) only [rencpb0]) only [rencpb12, ↓brun_b, Nat.reduceAdd, Nat.reduceBEq, hwk]
        refine ⟨⟨i + 1, by omega⟩, [0, 3], ?_, by show l.length - (i + 1) < l.length - i; omega⟩
        have hGc : outG F (l.take (i + 1)) = ((A ++ iB F.who) ++ N F.pn) := by rw [hGb] <;> simp only [List.append_assoc]
        (refine Wk.ofC ?_; simp -dsimp (decide := true) (disch := first | omega | simp (decide := true) only [rencpb0]) only [rencpb14, ↓brun_b, Nat.reduceAdd, Nat.reduceBEq, hGc, List.length_append])
        intro e he
        exact entL_eq (app_row (g := fun j => (brows (N F.pn)).getD j []) (a := (A ++ iB F.who)) (b := N F.pn) (n := A.length + 16) (by first | rfl | simp only [List.length_append, iB_length]) (fun e he => app_row (g := fun j => [cellAt _ (1 + j)]) (a := A) (b := iB F.who) (n := A.length) (by first | rfl | simp only [List.length_append, iB_length]) (fun _ _ => rfl) (fun j hj => id_at (FC.part_who _) j hj) (by first | omega | (simp only [iB_length]; omega))) (fun j hj => brows_at _ j hj) (by first | omega | (simp only [iB_length] at he ⊢; omega)))
    · replace hch : strAt ⟨l.toArray⟩ i = 97 := hch
      have hE : encB F 97 = iB F.a := rfl
      rw [hE] at hGb hle
      try simp only [iB_length] at hle
      simp -dsimp (decide := true) (disch := first | omega | simp (decide := true) only [rencpb0]) only [rencpb12, ↓brun_b, Nat.reduceAdd, Nat.reduceBEq, Nat.reduceLeDiff, sapp1_sl el5, hch, hwk, bsz]
      (repeat' refine And.intro (by omega) ?_)
      refine ⟨⟨i + 1, by omega⟩, [0, 2], ?_, by show l.length - (i + 1) < l.length - i; omega⟩
      have hGc : outG F (l.take (i + 1)) = (A ++ iB F.a) := by rw [hGb] <;> simp only [List.append_assoc]
      (refine Wk.ofC ?_; simp -dsimp (decide := true) (disch := first | omega | simp (decide := true) only [rencpb0]) only [rencpb14, ↓brun_b, Nat.reduceAdd, Nat.reduceBEq, hGc, List.length_append])
      intro e he
      exact entL_eq (app_row (g := fun j => [cellAt _ (19 + j)]) (a := A) (b := iB F.a) (n := A.length) (by first | rfl | simp only [List.length_append, iB_length]) (fun _ _ => rfl) (fun j hj => id_at (FC.part_a _) j hj) (by first | omega | (simp only [iB_length] at he ⊢; omega)))
    · replace hch : strAt ⟨l.toArray⟩ i = 98 := hch
      have hE : encB F 98 = iB F.b := rfl
      rw [hE] at hGb hle
      try simp only [iB_length] at hle
      simp -dsimp (decide := true) (disch := first | omega | simp (decide := true) only [rencpb0]) only [rencpb12, ↓brun_b, Nat.reduceAdd, Nat.reduceBEq, Nat.reduceLeDiff, sapp1_sl el5, hch, hwk, bsz]
      (repeat' refine And.intro (by omega) ?_)
      refine ⟨⟨i + 1, by omega⟩, [0, 2], ?_, by show l.length - (i + 1) < l.length - i; omega⟩
      have hGc : outG F (l.take (i + 1)) = (A ++ iB F.b) := by rw [hGb] <;> simp only [List.append_assoc]
      (refine Wk.ofC ?_; simp -dsimp (decide := true) (disch := first | omega | simp (decide := true) only [rencpb0]) only [rencpb14, ↓brun_b, Nat.reduceAdd, Nat.reduceBEq, hGc, List.length_append])
      intro e he
      exact entL_eq (app_row (g := fun j => [cellAt _ (35 + j)]) (a := A) (b := iB F.b) (n := A.length) (by first | rfl | simp only [List.length_append, iB_length]) (fun _ _ => rfl) (fun j hj => id_at (FC.part_b _) j hj) (by first | omega | (simp only [iB_length] at he ⊢; omega)))
    · replace hch : strAt ⟨l.toArray⟩ i = 100 := hch
      have hE : encB F 100 = flB F.toA := rfl
      rw [hE] at hGb hle
      cases ht : F.toA with
      | true =>
        have hfl : flB F.toA = [1, 1] := by rw [ht]; rfl
        rw [hfl] at hGb hle
        simp only [List.length_cons, List.length_nil] at hle
        simp -dsimp (decide := true) (disch := first | omega | simp (decide := true) only [rencpb0]) only [rencpb12, ↓brun_b, Nat.reduceAdd, Nat.reduceBEq, Nat.reduceLeDiff, sapp1_sl el5, hch, hwk, bsz]
        (repeat' refine And.intro (by omega) ?_)
        refine ⟨⟨i + 1, by omega⟩, [0, 3], ?_, by show l.length - (i + 1) < l.length - i; omega⟩
        (refine Wk.ofC ?_; simp -dsimp (decide := true) (disch := first | omega | simp (decide := true) only [rencpb0]) only [rencpb15, ↓brun_b, Nat.reduceAdd, Nat.reduceBEq, hGb, List.length_append])
        intro e he
        refine entL_eq (app_row (g := fun j => ([SV.v (.int .u8 1), SV.v (.int .u8 1)].drop j).take 1) (a := A) (b := [1, 1]) (n := A.length) rfl (fun _ _ => rfl) (fun j hj => ?_) he)
        match j, hj with
        | 0, _ => rfl
        | 1, _ => rfl
        | j + 2, h => exact absurd h (by simp)
      | false =>
        have hfl : flB F.toA = [0] := by rw [ht]; rfl
        rw [hfl] at hGb hle
        simp only [List.length_cons, List.length_nil] at hle
        simp -dsimp (decide := true) (disch := first | omega | simp (decide := true) only [rencpb0]) only [rencpb12, ↓brun_b, Nat.reduceAdd, Nat.reduceBEq, Nat.reduceLeDiff, sapp1_sl el5, hch, hwk, bsz]
        (repeat' refine And.intro (by omega) ?_)
        refine ⟨⟨i + 1, by omega⟩, [0, 3], ?_, by show l.length - (i + 1) < l.length - i; omega⟩
        (refine Wk.ofC ?_; simp -dsimp (decide := true) (disch := first | omega | simp (decide := true) only [rencpb0]) only [rencpb15, ↓brun_b, Nat.reduceAdd, Nat.reduceBEq, hGb, List.length_append])
        intro e he
        refine entL_eq (app_row (g := fun j => ([SV.v (.int .u8 0)].drop j).take 1) (a := A) (b := [0]) (n := A.length) rfl (fun _ _ => rfl) (fun j hj => ?_) he)
        match j, hj with
        | 0, _ => rfl
        | j + 1, h => exact absurd h (by simp)
    · replace hch : strAt ⟨l.toArray⟩ i = 114 := hch
      have hE : encB F 114 = N (F.tr.length : Int) ++ nB F.tr := rfl
      rw [hE] at hGb hle
      try simp only [List.length_append] at hle
      have c1 := num150 (F.tr.length : Int) (by omega)
      simp -dsimp (decide := true) (disch := first | omega | simp (decide := true) only [rencpb0]) only [rencpb12, ↓brun_b, Nat.reduceAdd, Nat.reduceBEq, hch, bsz]
      (repeat' refine And.intro (by omega) ?_)
      refine SemOps.callq (k := 1000) cal.f150 (c1) rfl rfl rfl rfl (by simp only [bflat_a]) (by simp only [bflat_a]) (by simp -dsimp (decide := true) (disch := first | omega | simp (decide := true) only [rencpb0]) only [rencpb8]) ?_
      simp -dsimp (decide := true) (disch := first | omega | simp (decide := true) only [rencpb0]) only [rencpb12, ↓brun_b, Nat.reduceAdd, Nat.reduceBEq, sapp1_sl el5]
      (repeat' refine And.intro (by omega) ?_)
      refine Sem.loop (ι := {k : Nat // k ≤ F.tr.length}) (fun k => ⟨211, 0, [(1, .ptr 0 0 0), (6, .slc 1 0 ((A ++ N (F.tr.length : Int)) ++ nB (F.tr.take k.1)).length), (7, .v (.string ⟨l.toArray⟩)), (8, .v (.int .i64 (i : Int))), (9, .v (.int .i64 (k.1 : Int)))], [some (.row ⟨95, 1, true, 151, fun _ => F.fc.c⟩), some (.row ⟨1, ((A ++ N (F.tr.length : Int)) ++ nB (F.tr.take k.1)).length, true, 5, brow ((A ++ N (F.tr.length : Int)) ++ nB (F.tr.take k.1))⟩)]⟩) (fun k => F.tr.length - k.1) ⟨0, Nat.zero_le _⟩ [0, 2] ?_ ?_
      · have h0 : (A ++ N (F.tr.length : Int)) ++ nB (F.tr.take 0) = (A ++ N (F.tr.length : Int)) := by simp [nB]
        (refine Wk.ofC ?_; simp -dsimp (decide := true) (disch := first | omega | simp (decide := true) only [rencpb0]) only [rencpb13, ↓brun_b, Nat.reduceAdd, Nat.reduceBEq, Frm.fc, h0, List.length_append])
        intro e he
        exact entL_eq (app_row (g := fun j => (brows (N (F.tr.length : Int))).getD j []) (a := A) (b := N (F.tr.length : Int)) (n := A.length) rfl (fun _ _ => rfl) (fun j hj => brows_at _ j hj) he)
      · rintro ⟨k, hk⟩
        refine Sem.go (k := 1000) ?_
        simp -dsimp (decide := true) (disch := first | omega | simp (decide := true) only [rencpb0]) only [rencpb12, ↓brun_b, Nat.reduceAdd, Nat.reduceBEq, Frm.fc]
        refine SCond.split (fun h2 => ?_) (fun h2 => ?_)
        · simp only [decide_eq_true_eq] at h2
          have hk' : k < F.tr.length := by omega
          have hwk2 : IntKind.i64.wrap ((k : Int) + 1) = ((k + 1 : Nat) : Int) := by rw [wrap_i64 _ (by omega)]; rfl
          have hft := nB_take F.tr k hk'
          have hle2 := nB_le F.tr (k + 1)
          have hat := lrows_at F.tr k hk'
          have hmm : F.tr.getD k 0 ∈ F.tr := by rw [List.getD_eq_getElem?_getD, List.getElem?_eq_getElem hk', Option.getD_some]; exact List.getElem_mem hk'
          have hxx := hm.2 _ hmm
          rw [hft, List.length_append] at hle2
          have hacc : ((A ++ N (F.tr.length : Int)) ++ nB (F.tr.take k)).length = A.length + (N (F.tr.length : Int)).length + (nB (F.tr.take k)).length := by simp only [List.length_append]
          simp -dsimp (decide := true) (disch := first | omega | simp (decide := true) only [rencpb0]) only [rencpb12, ↓brun_b, Nat.reduceAdd, Nat.reduceBEq, Nat.reduceLeDiff, hat, lrow]
          generalize F.tr.getD k 0 = x at *
          generalize ha : (A ++ N (F.tr.length : Int)) ++ nB (F.tr.take k) = a at *
          (repeat' refine And.intro (by omega) ?_)
          refine SemOps.callq (k := 1000) cal.f150 (num150 x (by omega)) rfl rfl rfl rfl (by simp only [bflat_a]) (by simp only [bflat_a]) (by simp -dsimp (decide := true) (disch := first | omega | simp (decide := true) only [rencpb0]) only [rencpb8]) ?_
          simp -dsimp (decide := true) (disch := first | omega | simp (decide := true) only [rencpb0]) only [rencpb12, ↓brun_b, Nat.reduceAdd, Nat.reduceBEq, sapp1_sl el5, hwk2]
          (repeat' refine And.intro (by omega) ?_)
          refine ⟨⟨k + 1, by omega⟩, [0, 2], ?_, by show F.tr.length - (k + 1) < F.tr.length - k; omega⟩
          have hstep : (A ++ N (F.tr.length : Int)) ++ nB (F.tr.take (k + 1)) = a ++ N x := by rw [hft, ← List.append_assoc, ha]
          (refine Wk.ofC ?_; simp -dsimp (decide := true) (disch := first | omega | simp (decide := true) only [rencpb0]) only [rencpb13, ↓brun_b, Nat.reduceAdd, Nat.reduceBEq, hstep, List.length_append])
          intro e he
          exact entL_eq (app_row (g := fun j => (brows (N x)).getD j []) (a := a) (b := N x) (n := a.length) rfl (fun _ _ => rfl) (fun j hj => brows_at _ j hj) he)
        · simp only [decide_eq_false_iff_not] at h2
          obtain rfl : k = F.tr.length := by omega
          rw [List.take_length]
          simp -dsimp (decide := true) (disch := first | omega | simp (decide := true) only [rencpb0]) only [rencpb12, ↓brun_b, reduceIte, Nat.reduceAdd, Nat.reduceBEq, hwk]
          (repeat' refine And.intro (by omega) ?_)
          refine ⟨⟨i + 1, by omega⟩, [0, 1], ?_, by show l.length - (i + 1) < l.length - i; omega⟩
          have hGc : outG F (l.take (i + 1)) = (A ++ N (F.tr.length : Int)) ++ nB F.tr := by rw [hGb] <;> simp only [List.append_assoc]
          (refine Wk.ofC ?_; simp -dsimp (decide := true) (disch := first | omega | simp (decide := true) only [rencpb0]) only [rencpb13, ↓brun_b, Nat.reduceAdd, Nat.reduceBEq, hGc])
    · replace hch : strAt ⟨l.toArray⟩ i = 115 := hch
      have hE : encB F 115 = N (F.is.length : Int) ++ idsB F.is := rfl
      rw [hE] at hGb hle
      try simp only [List.length_append] at hle
      have c1 := num150 (F.is.length : Int) (by omega)
      simp -dsimp (decide := true) (disch := first | omega | simp (decide := true) only [rencpb0]) only [rencpb12, ↓brun_b, Nat.reduceAdd, Nat.reduceBEq, hch, bsz]
      (repeat' refine And.intro (by omega) ?_)
      refine SemOps.callq (k := 1000) cal.f150 (c1) rfl rfl rfl rfl (by simp only [bflat_a]) (by simp only [bflat_a]) (by simp -dsimp (decide := true) (disch := first | omega | simp (decide := true) only [rencpb0]) only [rencpb8]) ?_
      simp -dsimp (decide := true) (disch := first | omega | simp (decide := true) only [rencpb0]) only [rencpb12, ↓brun_b, Nat.reduceAdd, Nat.reduceBEq, sapp1_sl el5]
      (repeat' refine And.intro (by omega) ?_)
      refine Sem.loop (ι := {k : Nat // k ≤ F.is.length}) (fun k => ⟨211, 0, [(1, .ptr 0 0 0), (6, .slc 1 0 ((A ++ N (F.is.length : Int)) ++ idsB (F.is.take k.1)).length), (7, .v (.string ⟨l.toArray⟩)), (8, .v (.int .i64 (i : Int))), (10, .v (.int .i64 (k.1 : Int)))], [some (.row ⟨95, 1, true, 151, fun _ => F.fc.c⟩), some (.row ⟨1, ((A ++ N (F.is.length : Int)) ++ idsB (F.is.take k.1)).length, true, 5, brow ((A ++ N (F.is.length : Int)) ++ idsB (F.is.take k.1))⟩)]⟩) (fun k => F.is.length - k.1) ⟨0, Nat.zero_le _⟩ [0, 2] ?_ ?_
      · have h0 : (A ++ N (F.is.length : Int)) ++ idsB (F.is.take 0) = (A ++ N (F.is.length : Int)) := by simp [idsB]
        (refine Wk.ofC ?_; simp -dsimp (decide := true) (disch := first | omega | simp (decide := true) only [rencpb0]) only [rencpb13, ↓brun_b, Nat.reduceAdd, Nat.reduceBEq, Frm.fc, h0, List.length_append])
        intro e he
        exact entL_eq (app_row (g := fun j => (brows (N (F.is.length : Int))).getD j []) (a := A) (b := N (F.is.length : Int)) (n := A.length) rfl (fun _ _ => rfl) (fun j hj => brows_at _ j hj) he)
      · rintro ⟨k, hk⟩
        refine Sem.go (k := 1000) ?_
        simp -dsimp (decide := true) (disch := first | omega | simp (decide := true) only [rencpb0]) only [rencpb12, ↓brun_b, Nat.reduceAdd, Nat.reduceBEq, Frm.fc]
        refine SCond.split (fun h2 => ?_) (fun h2 => ?_)
        · simp only [decide_eq_true_eq] at h2
          have hk' : k < F.is.length := by omega
          have hwk2 : IntKind.i64.wrap ((k : Int) + 1) = ((k + 1 : Nat) : Int) := by rw [wrap_i64 _ (by omega)]; rfl
          have hft := idsB_take F.is k hk' I16.zero
          have hle2 := idsB_le F.is (k + 1)
          have hat := idrs_at F.is k hk' I16.zero
          rw [hft, List.length_append, iB_length] at hle2
          have hacc : ((A ++ N (F.is.length : Int)) ++ idsB (F.is.take k)).length = A.length + (N (F.is.length : Int)).length + (idsB (F.is.take k)).length := by simp only [List.length_append]
          simp -dsimp (decide := true) (disch := first | omega | simp (decide := true) only [rencpb0]) only [rencpb12, ↓brun_b, Nat.reduceAdd, Nat.reduceBEq, Nat.reduceLeDiff, sapp1_sl el5, hat]
          generalize F.is.getD k I16.zero = x at *
          generalize ha : (A ++ N (F.is.length : Int)) ++ idsB (F.is.take k) = a at *
          have hxl : x.c.length = 16 := I16.c_length x
          have hix : (iB x).length = 16 := iB_length x
          have hbl : (brows (iB x)).length = 16 := by rw [brows_length, iB_length]
          (repeat' refine And.intro (by omega) ?_)
          simp -dsimp (decide := true) (disch := first | omega | simp (decide := true) only [rencpb0]) only [hwk2]
          (repeat' refine And.intro (by omega) ?_)
          refine ⟨⟨k + 1, by omega⟩, [0, 2], ?_, by show F.is.length - (k + 1) < F.is.length - k; omega⟩
          have hstep : (A ++ N (F.is.length : Int)) ++ idsB (F.is.take (k + 1)) = a ++ iB x := by rw [hft, ← List.append_assoc, ha]
          (refine Wk.ofC ?_; simp -dsimp (decide := true) (disch := first | omega | simp (decide := true) only [rencpb0]) only [rencpb14, ↓brun_b, Nat.reduceAdd, Nat.reduceBEq, hstep, List.length_append])
          intro e he
          exact entL_eq (app_row (g := fun j => (brows (iB x)).getD j []) (a := a) (b := iB x) (n := a.length) rfl (fun _ _ => rfl) (fun j hj => brows_at _ j hj) (by simp only [iB_length]; omega))
        · simp only [decide_eq_false_iff_not] at h2
          obtain rfl : k = F.is.length := by omega
          rw [List.take_length]
          simp -dsimp (decide := true) (disch := first | omega | simp (decide := true) only [rencpb0]) only [rencpb12, ↓brun_b, reduceIte, Nat.reduceAdd, Nat.reduceBEq, hwk]
          (repeat' refine And.intro (by omega) ?_)
          refine ⟨⟨i + 1, by omega⟩, [0, 1], ?_, by show l.length - (i + 1) < l.length - i; omega⟩
          have hGc : outG F (l.take (i + 1)) = (A ++ N (F.is.length : Int)) ++ idsB F.is := by rw [hGb] <;> simp only [List.append_assoc]
          (refine Wk.ofC ?_; simp -dsimp (decide := true) (disch := first | omega | simp (decide := true) only [rencpb0]) only [rencpb13, ↓brun_b, Nat.reduceAdd, Nat.reduceBEq, hGc])
    · replace hch : strAt ⟨l.toArray⟩ i = 105 := hch
      have hE : encB F 105 = iB F.key ++ N F.vn ++ iB F.vwho ++ txB F.val := rfl
      rw [hE] at hGb hle
      try simp only [List.length_append, iB_length] at hle
      have c2 := num150 F.vn hm.1
      have c4 := text46 F.val (by have := hm.2; omega)
      simp -dsimp (decide := true) (disch := first | omega | simp (decide := true) only [rencpb0]) only [rencpb12, ↓brun_b, Nat.reduceAdd, Nat.reduceBEq, Nat.reduceLeDiff, sapp1_sl el5, hch, bsz]
      (repeat' refine And.intro (by omega) ?_)
      refine SemOps.callq (k := 1000) cal.f150 (c2) rfl rfl rfl rfl (by simp only [bflat_a]) (by simp only [bflat_a]) (by simp -dsimp (decide := true) (disch := first | omega | simp (decide := true) only [rencpb0]) only [rencpb8]) ?_
      simp -dsimp (decide := true) (disch := first | omega | simp (decide := true) only [rencpb0]) only [rencpb12, ↓brun_b, Nat.reduceAdd, Nat.reduceBEq, Nat.reduceLeDiff, sapp1_sl el5, hch, bsz]
      (repeat' refine And.intro (by omega) ?_)
      refine SemOps.callq (k := 1000) cal.f46 (c4) rfl rfl rfl rfl (by simp only [bflat_a]) (by simp only [bflat_a]) (by simp -dsimp (decide := true) (disch := first | omega | simp (decide := true) only [rencpb0]) only [rencpb8]) ?_
      simp -dsimp (decide := true) (disch := first | omega | simp (decide := true) only [rencpb0]) only [rencpb12, ↓brun_b, Nat.reduceAdd, Nat.reduceBEq, Nat.reduceLeDiff, sapp1_sl el5, hwk]
      (repeat' refine And.intro (by omega) ?_)
      refine ⟨⟨i + 1, by omega⟩, [0, 5], ?_, by show l.length - (i + 1) < l.length - i; omega⟩
      have hGc : outG F (l.take (i + 1)) = ((((A ++ iB F.key) ++ N F.vn) ++ iB F.vwho) ++ txB F.val) := by rw [hGb] <;> simp only [List.append_assoc]
      (refine Wk.ofC ?_; simp -dsimp (decide := true) (disch := first | omega | simp (decide := true) only [rencpb0]) only [rencpb14, ↓brun_b, Nat.reduceAdd, Nat.reduceBEq, hGc, List.length_append])
      intro e he
      exact entL_eq (app_row (g := fun j => (brows (txB F.val)).getD j []) (a := (((A ++ iB F.key) ++ N F.vn) ++ iB F.vwho)) (b := txB F.val) (n := A.length + 16 + (N F.vn).length + 16) (by first | rfl | simp only [List.length_append, iB_length]) (fun e he => app_row (g := fun j => [cellAt _ (75 + j)]) (a := ((A ++ iB F.key) ++ N F.vn)) (b := iB F.vwho) (n := A.length + 16 + (N F.vn).length) (by first | rfl | simp only [List.length_append, iB_length]) (fun e he => app_row (g := fun j => (brows (N F.vn)).getD j []) (a := (A ++ iB F.key)) (b := N F.vn) (n := A.length + 16) (by first | rfl | simp only [List.length_append, iB_length]) (fun e he => app_row (g := fun j => [cellAt _ (58 + j)]) (a := A) (b := iB F.key) (n := A.length) (by first | rfl | simp only [List.length_append, iB_length]) (fun _ _ => rfl) (fun j hj => id_at (FC.part_key _) j hj) (by first | omega | (simp only [iB_length]; omega))) (fun j hj => brows_at _ j hj) (by first | omega | (simp only [iB_length]; omega))) (fun j hj => id_at (FC.part_vwho _) j hj) (by first | omega | (simp only [iB_length]; omega))) (fun j hj => brows_at _ j hj) (by first | omega | (simp only [iB_length] at he ⊢; omega)))
    · replace hch : strAt ⟨l.toArray⟩ i = 107 := hch
      have hE : encB F 107 = iB F.key ++ N F.vn ++ iB F.vwho := rfl
      rw [hE] at hGb hle
      try simp only [List.length_append, iB_length] at hle
      have c2 := num150 F.vn hm
      simp -dsimp (decide := true) (disch := first | omega | simp (decide := true) only [rencpb0]) only [rencpb12, ↓brun_b, Nat.reduceAdd, Nat.reduceBEq, Nat.reduceLeDiff, sapp1_sl el5, hch, bsz]
      (repeat' refine And.intro (by omega) ?_)
      refine SemOps.callq (k := 1000) cal.f150 (c2) rfl rfl rfl rfl (by simp only [bflat_a]) (by simp only [bflat_a]) (by simp -dsimp (decide := true) (disch := first | omega | simp (decide := true) only [rencpb0]) only [rencpb8]) ?_
      simp -dsimp (decide := true) (disch := first | omega | simp (decide := true) only [rencpb0]) only [rencpb12, ↓brun_b, Nat.reduceAdd, Nat.reduceBEq, Nat.reduceLeDiff, sapp1_sl el5, hch, hwk, bsz]
      (repeat' refine And.intro (by omega) ?_)
      refine ⟨⟨i + 1, by omega⟩, [0, 4], ?_, by show l.length - (i + 1) < l.length - i; omega⟩
      have hGc : outG F (l.take (i + 1)) = (((A ++ iB F.key) ++ N F.vn) ++ iB F.vwho) := by rw [hGb] <;> simp only [List.append_assoc]
      (refine Wk.ofC ?_; simp -dsimp (decide := true) (disch := first | omega | simp (decide := true) only [rencpb0]) only [rencpb14, ↓brun_b, Nat.reduceAdd, Nat.reduceBEq, hGc, List.length_append])
      intro e he
      exact entL_eq (app_row (g := fun j => [cellAt _ (75 + j)]) (a := ((A ++ iB F.key) ++ N F.vn)) (b := iB F.vwho) (n := A.length + 16 + (N F.vn).length) (by first | rfl | simp only [List.length_append, iB_length]) (fun e he => app_row (g := fun j => (brows (N F.vn)).getD j []) (a := (A ++ iB F.key)) (b := N F.vn) (n := A.length + 16) (by first | rfl | simp only [List.length_append, iB_length]) (fun e he => app_row (g := fun j => [cellAt _ (58 + j)]) (a := A) (b := iB F.key) (n := A.length) (by first | rfl | simp only [List.length_append, iB_length]) (fun _ _ => rfl) (fun j hj => id_at (FC.part_key _) j hj) (by first | omega | (simp only [iB_length]; omega))) (fun j hj => brows_at _ j hj) (by first | omega | (simp only [iB_length]; omega))) (fun j hj => id_at (FC.part_vwho _) j hj) (by first | omega | (simp only [iB_length] at he ⊢; omega)))
    · replace hch : strAt ⟨l.toArray⟩ i = 108 := hch
      have hE : encB F 108 = N F.op := rfl
      rw [hE] at hGb hle
      try simp only [List.length_append, iB_length] at hle
      have c1 := num150 F.op hm
      simp -dsimp (decide := true) (disch := first | omega | simp (decide := true) only [rencpb0]) only [rencpb12, ↓brun_b, Nat.reduceAdd, Nat.reduceBEq, hch, bsz]
      (repeat' refine And.intro (by omega) ?_)
      refine SemOps.callq (k := 1000) cal.f150 (c1) rfl rfl rfl rfl (by simp only [bflat_a]) (by simp only [bflat_a]) (by simp -dsimp (decide := true) (disch := first | omega | simp (decide := true) only [rencpb0]) only [rencpb8]) ?_
      simp -dsimp (decide := true) (disch := first | omega | simp (decide := true) only [rencpb0]) only [rencpb12, ↓brun_b, Nat.reduceAdd, Nat.reduceBEq, sapp1_sl el5, hwk]
      (repeat' refine And.intro (by omega) ?_)
      refine ⟨⟨i + 1, by omega⟩, [0, 2], ?_, by show l.length - (i + 1) < l.length - i; omega⟩
      have hGc : outG F (l.take (i + 1)) = (A ++ N F.op) := by rw [hGb] <;> simp only [List.append_assoc]
      (refine Wk.ofC ?_; simp -dsimp (decide := true) (disch := first | omega | simp (decide := true) only [rencpb0]) only [rencpb14, ↓brun_b, Nat.reduceAdd, Nat.reduceBEq, hGc, List.length_append])
      intro e he
      exact entL_eq (app_row (g := fun j => (brows (N F.op)).getD j []) (a := A) (b := N F.op) (n := A.length) (by first | rfl | simp only [List.length_append, iB_length]) (fun _ _ => rfl) (fun j hj => brows_at _ j hj) (by first | omega | (simp only [iB_length] at he ⊢; omega)))
    · replace hch : strAt ⟨l.toArray⟩ i = 111 := hch
      have hE : encB F 111 = N F.op := rfl
      rw [hE] at hGb hle
      try simp only [List.length_append, iB_length] at hle
      have c1 := num150 F.op hm
      simp -dsimp (decide := true) (disch := first | omega | simp (decide := true) only [rencpb0]) only [rencpb12, ↓brun_b, Nat.reduceAdd, Nat.reduceBEq, hch, bsz]
      (repeat' refine And.intro (by omega) ?_)
      refine SemOps.callq (k := 1000) cal.f150 (c1) rfl rfl rfl rfl (by simp only [bflat_a]) (by simp only [bflat_a]) (by simp -dsimp (decide := true) (disch := first | omega | simp (decide := true) only [rencpb0]) only [rencpb8]) ?_
      simp -dsimp (decide := true) (disch := first | omega | simp (decide := true) only [rencpb0]) only [rencpb12, ↓brun_b, Nat.reduceAdd, Nat.reduceBEq, sapp1_sl el5, hwk]
      (repeat' refine And.intro (by omega) ?_)
      refine ⟨⟨i + 1, by omega⟩, [0, 2], ?_, by show l.length - (i + 1) < l.length - i; omega⟩
      have hGc : outG F (l.take (i + 1)) = (A ++ N F.op) := by rw [hGb] <;> simp only [List.append_assoc]
      (refine Wk.ofC ?_; simp -dsimp (decide := true) (disch := first | omega | simp (decide := true) only [rencpb0]) only [rencpb14, ↓brun_b, Nat.reduceAdd, Nat.reduceBEq, hGc, List.length_append])
      intro e he
      exact entL_eq (app_row (g := fun j => (brows (N F.op)).getD j []) (a := A) (b := N F.op) (n := A.length) (by first | rfl | simp only [List.length_append, iB_length]) (fun _ _ => rfl) (fun j hj => brows_at _ j hj) (by first | omega | (simp only [iB_length] at he ⊢; omega)))
    · replace hch : strAt ⟨l.toArray⟩ i = 119 := hch
      have hE : encB F 119 = N F.ttl := rfl
      rw [hE] at hGb hle
      try simp only [List.length_append, iB_length] at hle
      have c1 := num150 F.ttl hm
      simp -dsimp (decide := true) (disch := first | omega | simp (decide := true) only [rencpb0]) only [rencpb12, ↓brun_b, Nat.reduceAdd, Nat.reduceBEq, hch, bsz]
      (repeat' refine And.intro (by omega) ?_)
      refine SemOps.callq (k := 1000) cal.f150 (c1) rfl rfl rfl rfl (by simp only [bflat_a]) (by simp only [bflat_a]) (by simp -dsimp (decide := true) (disch := first | omega | simp (decide := true) only [rencpb0]) only [rencpb8]) ?_
      simp -dsimp (decide := true) (disch := first | omega | simp (decide := true) only [rencpb0]) only [rencpb12, ↓brun_b, Nat.reduceAdd, Nat.reduceBEq, sapp1_sl el5, hwk]
      (repeat' refine And.intro (by omega) ?_)
      refine ⟨⟨i + 1, by omega⟩, [0, 2], ?_, by show l.length - (i + 1) < l.length - i; omega⟩
      have hGc : outG F (l.take (i + 1)) = (A ++ N F.ttl) := by rw [hGb] <;> simp only [List.append_assoc]
      (refine Wk.ofC ?_; simp -dsimp (decide := true) (disch := first | omega | simp (decide := true) only [rencpb0]) only [rencpb14, ↓brun_b, Nat.reduceAdd, Nat.reduceBEq, hGc, List.length_append])
      intro e he
      exact entL_eq (app_row (g := fun j => (brows (N F.ttl)).getD j []) (a := A) (b := N F.ttl) (n := A.length) (by first | rfl | simp only [List.length_append, iB_length]) (fun _ _ => rfl) (fun j hj => brows_at _ j hj) (by first | omega | (simp only [iB_length] at he ⊢; omega)))
    · replace hch : strAt ⟨l.toArray⟩ i = 120 := hch
      have hE : encB F 120 = txB F.tx := rfl
      rw [hE] at hGb hle
      try simp only [List.length_append, iB_length] at hle
      have c1 := text46 F.tx (by have : F.tx.length ≤ 4096 := hm; omega)
      simp -dsimp (decide := true) (disch := first | omega | simp (decide := true) only [rencpb0]) only [rencpb12, ↓brun_b, Nat.reduceAdd, Nat.reduceBEq, hch, bsz]
      (repeat' refine And.intro (by omega) ?_)
      refine SemOps.callq (k := 1000) cal.f46 (c1) rfl rfl rfl rfl (by simp only [bflat_a]) (by simp only [bflat_a]) (by simp -dsimp (decide := true) (disch := first | omega | simp (decide := true) only [rencpb0]) only [rencpb8]) ?_
      simp -dsimp (decide := true) (disch := first | omega | simp (decide := true) only [rencpb0]) only [rencpb12, ↓brun_b, Nat.reduceAdd, Nat.reduceBEq, sapp1_sl el5, hwk]
      (repeat' refine And.intro (by omega) ?_)
      refine ⟨⟨i + 1, by omega⟩, [0, 2], ?_, by show l.length - (i + 1) < l.length - i; omega⟩
      have hGc : outG F (l.take (i + 1)) = (A ++ txB F.tx) := by rw [hGb] <;> simp only [List.append_assoc]
      (refine Wk.ofC ?_; simp -dsimp (decide := true) (disch := first | omega | simp (decide := true) only [rencpb0]) only [rencpb14, ↓brun_b, Nat.reduceAdd, Nat.reduceBEq, hGc, List.length_append])
      intro e he
      exact entL_eq (app_row (g := fun j => (brows (txB F.tx)).getD j []) (a := A) (b := txB F.tx) (n := A.length) (by first | rfl | simp only [List.length_append, iB_length]) (fun _ _ => rfl) (fun j hj => brows_at _ j hj) (by first | omega | (simp only [iB_length] at he ⊢; omega)))
    · replace hch : strAt ⟨l.toArray⟩ i = 121 := hch
      have hE : encB F 121 = txB F.tx := rfl
      rw [hE] at hGb hle
      try simp only [List.length_append, iB_length] at hle
      have c1 := text46 F.tx (by have : F.tx.length ≤ 4096 := hm; omega)
      simp -dsimp (decide := true) (disch := first | omega | simp (decide := true) only [rencpb0]) only [rencpb12, ↓brun_b, Nat.reduceAdd, Nat.reduceBEq, hch, bsz]
      (repeat' refine And.intro (by omega) ?_)
      refine SemOps.callq (k := 1000) cal.f46 (c1) rfl rfl rfl rfl (by simp only [bflat_a]) (by simp only [bflat_a]) (by simp -dsimp (decide := true) (disch := first | omega | simp (decide := true) only [rencpb0]) only [rencpb8]) ?_
      simp -dsimp (decide := true) (disch := first | omega | simp (decide := true) only [rencpb0]) only [rencpb12, ↓brun_b, Nat.reduceAdd, Nat.reduceBEq, sapp1_sl el5, hwk]
      (repeat' refine And.intro (by omega) ?_)
      refine ⟨⟨i + 1, by omega⟩, [0, 2], ?_, by show l.length - (i + 1) < l.length - i; omega⟩
      have hGc : outG F (l.take (i + 1)) = (A ++ txB F.tx) := by rw [hGb] <;> simp only [List.append_assoc]
      (refine Wk.ofC ?_; simp -dsimp (decide := true) (disch := first | omega | simp (decide := true) only [rencpb0]) only [rencpb14, ↓brun_b, Nat.reduceAdd, Nat.reduceBEq, hGc, List.length_append])
      intro e he
      exact entL_eq (app_row (g := fun j => (brows (txB F.tx)).getD j []) (a := A) (b := txB F.tx) (n := A.length) (by first | rfl | simp only [List.length_append, iB_length]) (fun _ _ => rfl) (fun j hj => brows_at _ j hj) (by first | omega | (simp only [iB_length] at he ⊢; omega)))
end Go.Proofs
namespace Go.Proofs
open Go Go.SL
set_option maxRecDepth 100000
theorem nB_leg (l : List Int) : nB l = legB l := by
  induction l with
  | nil => rfl
  | cons x l ih =>
    show N x ++ nB l = form x.toNat ++ legB l
    rw [ih]; rfl
theorem eB_102 (F : Frm) : encB F 102 = N F.fi ++ N F.fn := rfl
theorem eB_116 (F : Frm) : encB F 116 = N F.ti ++ N F.tn := rfl
theorem eB_110 (F : Frm) : encB F 110 = N F.n := rfl
theorem eB_112 (F : Frm) : encB F 112 = iB F.who ++ N F.pn := rfl
theorem eB_97 (F : Frm) : encB F 97 = iB F.a := rfl
theorem eB_98 (F : Frm) : encB F 98 = iB F.b := rfl
theorem eB_100 (F : Frm) : encB F 100 = flB F.toA := rfl
theorem eB_114 (F : Frm) : encB F 114 = N (F.tr.length : Int) ++ nB F.tr := rfl
theorem eB_115 (F : Frm) : encB F 115 = N (F.is.length : Int) ++ idsB F.is := rfl
theorem eB_105 (F : Frm) : encB F 105 = iB F.key ++ N F.vn ++ iB F.vwho ++ txB F.val := rfl
theorem eB_107 (F : Frm) : encB F 107 = iB F.key ++ N F.vn ++ iB F.vwho := rfl
theorem eB_108 (F : Frm) : encB F 108 = N F.op := rfl
theorem eB_111 (F : Frm) : encB F 111 = N F.op := rfl
theorem eB_119 (F : Frm) : encB F 119 = N F.ttl := rfl
theorem eB_120 (F : Frm) : encB F 120 = txB F.tx := rfl
theorem eB_121 (F : Frm) : encB F 121 = txB F.tx := rfl
theorem outG_eq (F : Frm) (k : Nat) (hk : F.kind = k) (h1 : 1 ≤ k) (h2 : k ≤ 12) : outG F (forms F.kind) = bytesB F := by
  have hkk : F.k = k := by unfold Frm.k; rw [hk]; rfl
  unfold outG bytesB
  rw [hkk, hk, N_nat]
  have : k = 1 ∨ k = 2 ∨ k = 3 ∨ k = 4 ∨ k = 5 ∨ k = 6 ∨ k = 7 ∨ k = 8 ∨ k = 9 ∨ k = 10 ∨ k = 11 ∨ k = 12 := by omega
  rcases this with rfl | rfl | rfl | rfl | rfl | rfl | rfl | rfl | rfl | rfl | rfl | rfl
  · rw [show forms ((1 : Nat) : Int) = [102, 116, 97] from rfl]
    simp only [List.flatMap_cons, List.flatMap_nil, bodyB, eB_102, eB_116, eB_97, List.append_assoc, List.append_nil]
  · rw [show forms ((2 : Nat) : Int) = [102, 116, 110, 120] from rfl]
    simp only [List.flatMap_cons, List.flatMap_nil, bodyB, eB_102, eB_116, eB_110, eB_120, List.append_assoc, List.append_nil]
  · rw [show forms ((3 : Nat) : Int) = [102, 116, 110] from rfl]
    simp only [List.flatMap_cons, List.flatMap_nil, bodyB, eB_102, eB_116, eB_110, List.append_assoc, List.append_nil]
  · rw [show forms ((4 : Nat) : Int) = [112, 97, 98, 114] from rfl]
    simp only [List.flatMap_cons, List.flatMap_nil, bodyB, eB_112, eB_97, eB_98, eB_114, N_nat, nB_leg, List.append_assoc, List.append_nil]
  · rw [show forms ((5 : Nat) : Int) = [112] from rfl]
    simp only [List.flatMap_cons, List.flatMap_nil, bodyB, eB_112, List.append_nil]
  · rw [show forms ((6 : Nat) : Int) = [112, 100] from rfl]
    simp only [List.flatMap_cons, List.flatMap_nil, bodyB, eB_112, eB_100, List.append_assoc, List.append_nil]
  · rw [show forms ((7 : Nat) : Int) = [112, 100, 115] from rfl]
    simp only [List.flatMap_cons, List.flatMap_nil, bodyB, eB_112, eB_100, eB_115, N_nat, List.append_assoc, List.append_nil]
  · rw [show forms ((8 : Nat) : Int) = [97, 98, 108, 112, 100, 114] from rfl]
    simp only [List.flatMap_cons, List.flatMap_nil, bodyB, eB_97, eB_98, eB_108, eB_112, eB_100, eB_114, N_nat, nB_leg, List.append_assoc, List.append_nil]
  · rw [show forms ((9 : Nat) : Int) = [97, 110] from rfl]
    simp only [List.flatMap_cons, List.flatMap_nil, bodyB, eB_97, eB_110, List.append_nil]
  · rw [show forms ((10 : Nat) : Int) = [97, 98, 110, 111, 119, 105, 121] from rfl]
    simp only [List.flatMap_cons, List.flatMap_nil, bodyB, eB_97, eB_98, eB_110, eB_111, eB_119, eB_105, eB_121, List.append_assoc, List.append_nil]
  · rw [show forms ((11 : Nat) : Int) = [112, 100, 105] from rfl]
    simp only [List.flatMap_cons, List.flatMap_nil, bodyB, eB_112, eB_100, eB_105, List.append_assoc, List.append_nil]
  · rw [show forms ((12 : Nat) : Int) = [112, 100, 107] from rfl]
    simp only [List.flatMap_cons, List.flatMap_nil, bodyB, eB_112, eB_100, eB_107, List.append_assoc, List.append_nil]
theorem bare_tr (k : Nat) (F : Frm) (h : F.tr.length < 4611686018427387904) : (bare k F).tr.length < 4611686018427387904 := by
  unfold bare
  split <;> first | exact h | (show 0 < 4611686018427387904; decide)
theorem bare_is (k : Nat) (F : Frm) (h : F.is.length < 4611686018427387904) : (bare k F).is.length < 4611686018427387904 := by
  unfold bare
  split <;> first | exact h | (show 0 < 4611686018427387904; decide)
theorem allT5_lim {l : List Int} (h : allT5 l = true) : ∀ v ∈ l, 0 ≤ v ∧ v < 6 := (allT5_iff l).1 h
theorem lim_of (F : Frm) (hw : F.wf) (c : UInt8) (hc : isLet c = true) (h : rgt F c = true) : lim F c := by
  have w_pn := hw.pn; have w_n := hw.n; have w_fi := hw.fi; have w_fn := hw.fn; have w_ti := hw.ti; have w_tn := hw.tn; have w_vn := hw.vn; have w_op := hw.op; have w_ttl := hw.ttl; unfold I64 at *
  have hcs : c = 102 ∨ c = 116 ∨ c = 110 ∨ c = 112 ∨ c = 97 ∨ c = 98 ∨ c = 100 ∨ c = 114 ∨ c = 115 ∨ c = 105 ∨ c = 107 ∨ c = 108 ∨ c = 111 ∨ c = 119 ∨ c = 120 ∨ c = 121 := by
    unfold isLet at hc
    simpa using hc
  rcases hcs with rfl | rfl | rfl | rfl | rfl | rfl | rfl | rfl | rfl | rfl | rfl | rfl | rfl | rfl | rfl | rfl
  · replace h : (decide (0 ≤ F.fi) && decide (0 ≤ F.fn)) = true := h
    simp only [Bool.and_eq_true, decide_eq_true_eq] at h
    show (0 ≤ F.fi ∧ F.fi < 9223372036854775808) ∧ (0 ≤ F.fn ∧ F.fn < 9223372036854775808)
    omega
  · replace h : (decide (0 ≤ F.ti) && decide (0 ≤ F.tn)) = true := h
    simp only [Bool.and_eq_true, decide_eq_true_eq] at h
    show (0 ≤ F.ti ∧ F.ti < 9223372036854775808) ∧ (0 ≤ F.tn ∧ F.tn < 9223372036854775808)
    omega
  · replace h : decide (0 ≤ F.n) = true := h
    simp only [decide_eq_true_eq] at h
    show 0 ≤ F.n ∧ F.n < 9223372036854775808
    omega
  · replace h : decide (0 ≤ F.pn) = true := h
    simp only [decide_eq_true_eq] at h
    show 0 ≤ F.pn ∧ F.pn < 9223372036854775808
    omega
  · exact trivial
  · exact trivial
  · exact trivial
  · replace h : (decide ((F.tr.length : Int) ≤ 64) && allT5 F.tr) = true := h
    simp only [Bool.and_eq_true, decide_eq_true_eq] at h
    show F.tr.length ≤ 64 ∧ ∀ v ∈ F.tr, 0 ≤ v ∧ v < 6
    exact ⟨by omega, allT5_lim h.2⟩
  · replace h : decide ((F.is.length : Int) ≤ 16) = true := h
    simp only [decide_eq_true_eq] at h
    show F.is.length ≤ 16
    omega
  · replace h : (decide (0 ≤ F.vn) && decide ((F.val.length : Int) ≤ 64)) = true := h
    simp only [Bool.and_eq_true, decide_eq_true_eq] at h
    show (0 ≤ F.vn ∧ F.vn < 9223372036854775808) ∧ F.val.length ≤ 64
    omega
  · replace h : decide (0 ≤ F.vn) = true := h
    simp only [decide_eq_true_eq] at h
    show 0 ≤ F.vn ∧ F.vn < 9223372036854775808
    omega
  · replace h : (decide (0 ≤ F.op) && decide (F.op ≤ 3)) = true := h
    simp only [Bool.and_eq_true, decide_eq_true_eq] at h
    show 0 ≤ F.op ∧ F.op < 9223372036854775808
    omega
  · replace h : (decide (1 ≤ F.op) && decide (F.op ≤ 4)) = true := h
    simp only [Bool.and_eq_true, decide_eq_true_eq] at h
    show 0 ≤ F.op ∧ F.op < 9223372036854775808
    omega
  · replace h : (decide (0 ≤ F.ttl) && decide (F.ttl ≤ 64)) = true := h
    simp only [Bool.and_eq_true, decide_eq_true_eq] at h
    show 0 ≤ F.ttl ∧ F.ttl < 9223372036854775808
    omega
  · replace h : decide ((F.tx.length : Int) ≤ 4096) = true := h
    simp only [decide_eq_true_eq] at h
    show F.tx.length ≤ 4096
    omega
  · replace h : decide ((F.tx.length : Int) ≤ 64) = true := h
    simp only [decide_eq_true_eq] at h
    show F.tx.length ≤ 4096
    omega
def rencpb16 :=
  (aI (aI (aI rencpc0 @FC.c_length) (aI @I16.c_length @IC.c_length)) (aI (aI @frmF_flat @frmc_one) (aI @idrs_len (aI @lrow_len @lrows_length))))
def rencpb17 :=
  (aI (aI (aI rencpc2 rencpc3) (aI @FC.c_length (aI @I16.c_length @IC.at_val))) (aI (aI @IC.c_length @IC.part_key) (aI @IC.part_ver (aI @sop_inv @tab.u36))))
def rencpb18 :=
  (aI (aI (aI rencpc2 rencpc3) (aI @FC.c_length (aI @I16.c_length @bwk_a))) (aI (aI @eq_self.{1} @forall_const.{1}) (aI @implies_true.{0} (aI @implies_true.{1} @tab.u36))))
theorem num150_own (x : Int) (h : 0 ≤ x ∧ x < 9223372036854775808) : Owns Try.prog 150 [.v (.int .i64 x)] 1 (N x).length 5 (brow (N x)) := by
  obtain ⟨n, rfl⟩ : ∃ n : Nat, x = (n : Int) := ⟨x.toNat, by omega⟩
  rw [N_nat]
  have hw : IntKind.u64.wrap (n : Int) = (n : Int) := wrap_u64 _ (by omega)
  have hl := form_le n (by omega)
  refine SCall.mk (fn := Try.f150) (by kernel_rfl) rfl (Nat.le_of_ble_eq_true (by kernel_rfl)) ?_
  refine Sem.go (k := 1000) ?_
  simp -dsimp (decide := true) (disch := first | omega | simp (decide := true) only [rencpb16]) only [rencpb17, ↓brun_b, envOf, Nat.reduceBEq, hw]
  refine SemOps.callo (k := 1000) cal.f45 (num_owns n (by omega)) rfl rfl rfl rfl (by simp only [bflat_a]) (brow_flat _) (by simp -dsimp (decide := true) (disch := first | omega | simp (decide := true) only [rencpb16]) only [rencpb10]) ?_
  simp -dsimp (decide := true) (disch := first | omega | simp (decide := true) only [rencpb16]) only [rencpb17, ↓brun_b]
  refine SQ.runL (rs := [.tmp 2]) [0] _ _ rfl (And.intro rfl rfl) (by decide) rfl rfl ?_ ?_
  · simp -dsimp (decide := true) (disch := first | omega | simp (decide := true) only [rencpb16]) only [rencpb18]
  · simp -dsimp (decide := true) (disch := first | omega | simp (decide := true) only [rencpb16]) only [rencpb18, ↓brun_b]
def rencpb19 :=
  (aI (aI (aI rencpc2 rencpc3) (aI rencpc5 (aI rencpc4 @FC.c_length))) (aI (aI @I16.c_length (aI @IC.at_val @IC.c_length)) (aI @IC.part_key (aI @IC.part_ver @sop_inv))))
def rencpb20 :=
  (aI (aI (aI (aI rencpc2 rencpc3) (aI rencpc5 rencpc4)) (aI (aI @FC.c_length @I16.c_length) (aI @IC.at_val @IC.c_length))) (aI (aI (aI @IC.part_key @IC.part_ver) (aI @brows_nil @bwk_a)) (aI (aI @eq_self.{1} @forall_const.{1}) (aI @implies_true.{0} (aI @implies_true.{1} @sop_inv)))))
theorem renc_none (F : Frm) (hk : F.kind < 1 ∨ 12 < F.kind) : Pure Try.prog 115 [.agg F.fc.c] (.tup [bsl [], .v (.int .i64 1)]) := by
  have hB := bare_none F (forms_none F.kind hk)
  refine SCall.mk (fn := Try.f115) (by kernel_rfl) rfl (Nat.le_of_ble_eq_true (by kernel_rfl)) ?_
  refine Sem.go (k := 1000) ?_
  simp -dsimp (decide := true) (disch := first | omega | simp (decide := true) only [rencpb16]) only [rencpb19, ↓brun_b, envOf, Nat.reduceBEq]
  refine SemOps.callq (k := 1000) cal.f120 (hB) rfl rfl rfl rfl (by simp only [bflat_a, frmF_flat]) (by simp only [bflat_a, frmF_flat]) (by simp -dsimp (decide := true) (disch := first | omega | simp (decide := true) only [rencpb16]) only [rencpb8]) ?_
  simp -dsimp (decide := true) (disch := first | omega | simp (decide := true) only [rencpb16]) only [rencpb19, ↓brun_b, Nat.reduceAdd, Nat.reduceBEq]
  refine SQ.answer (rs := [.tmp 2, .tmp 3]) rfl rfl ?_
  simp -dsimp (decide := true) (disch := first | omega | simp (decide := true) only [rencpb16]) only [rencpb20, ↓brun_b, Nat.reduceAdd, Nat.reduceBEq, rho, bsl]
theorem renc_bare (F : Frm) (B : Frm) (hB : Pure Try.prog 120 [.agg F.fc.c] (.tup [.agg B.fc.c, .v (.bool true)])) (hs : Pure Try.prog 104 [.agg F.fc.c, .agg B.fc.c] (.v (.bool false))) : Pure Try.prog 115 [.agg F.fc.c] (.tup [bsl [], .v (.int .i64 1)]) := by
  refine SCall.mk (fn := Try.f115) (by kernel_rfl) rfl (Nat.le_of_ble_eq_true (by kernel_rfl)) ?_
  refine Sem.go (k := 1000) ?_
  simp -dsimp (decide := true) (disch := first | omega | simp (decide := true) only [rencpb16]) only [rencpb19, ↓brun_b, envOf, Nat.reduceBEq]
  refine SemOps.callq (k := 1000) cal.f120 (hB) rfl rfl rfl rfl (by simp only [bflat_a, frmF_flat]) (by simp only [bflat_a, frmF_flat]) (by simp -dsimp (decide := true) (disch := first | omega | simp (decide := true) only [rencpb16]) only [rencpb8]) ?_
  simp -dsimp (decide := true) (disch := first | omega | simp (decide := true) only [rencpb16]) only [rencpb19, ↓brun_b, Nat.reduceAdd, Nat.reduceBEq]
  refine SemOps.callq (k := 1000) cal.f104 (hs) rfl rfl rfl rfl (by simp only [bflat_a, frmF_flat]) (by simp only [bflat_a]) (by simp -dsimp (decide := true) (disch := first | omega | simp (decide := true) only [rencpb16]) only [rencpb8]) ?_
  simp -dsimp (decide := true) (disch := first | omega | simp (decide := true) only [rencpb16]) only [rencpb19, ↓brun_b, Nat.reduceAdd, Nat.reduceBEq]
  refine SQ.answer (rs := [.tmp 2, .tmp 3]) rfl rfl ?_
  simp -dsimp (decide := true) (disch := first | omega | simp (decide := true) only [rencpb16]) only [rencpb20, ↓brun_b, Nat.reduceAdd, Nat.reduceBEq, rho, bsl]
theorem renc_right (F : Frm) (B : Frm) (hB : Pure Try.prog 120 [.agg F.fc.c] (.tup [.agg B.fc.c, .v (.bool true)])) (hs : Pure Try.prog 104 [.agg F.fc.c, .agg B.fc.c] (.v (.bool true))) (hR : Pure Try.prog 122 [.agg F.fc.c] (.v (.bool false))) : Pure Try.prog 115 [.agg F.fc.c] (.tup [bsl [], .v (.int .i64 1)]) := by
  refine SCall.mk (fn := Try.f115) (by kernel_rfl) rfl (Nat.le_of_ble_eq_true (by kernel_rfl)) ?_
  refine Sem.go (k := 1000) ?_
  simp -dsimp (decide := true) (disch := first | omega | simp (decide := true) only [rencpb16]) only [rencpb19, ↓brun_b, envOf, Nat.reduceBEq]
  refine SemOps.callq (k := 1000) cal.f120 (hB) rfl rfl rfl rfl (by simp only [bflat_a, frmF_flat]) (by simp only [bflat_a, frmF_flat]) (by simp -dsimp (decide := true) (disch := first | omega | simp (decide := true) only [rencpb16]) only [rencpb8]) ?_
  simp -dsimp (decide := true) (disch := first | omega | simp (decide := true) only [rencpb16]) only [rencpb19, ↓brun_b, Nat.reduceAdd, Nat.reduceBEq]
  refine SemOps.callq (k := 1000) cal.f104 (hs) rfl rfl rfl rfl (by simp only [bflat_a, frmF_flat]) (by simp only [bflat_a]) (by simp -dsimp (decide := true) (disch := first | omega | simp (decide := true) only [rencpb16]) only [rencpb8]) ?_
  simp -dsimp (decide := true) (disch := first | omega | simp (decide := true) only [rencpb16]) only [rencpb19, ↓brun_b, Nat.reduceAdd, Nat.reduceBEq]
  refine SemOps.callq (k := 1000) cal.f122 (hR) rfl rfl rfl rfl (by simp only [bflat_a, frmF_flat]) (by simp only [bflat_a]) (by simp -dsimp (decide := true) (disch := first | omega | simp (decide := true) only [rencpb16]) only [rencpb8]) ?_
  simp -dsimp (decide := true) (disch := first | omega | simp (decide := true) only [rencpb16]) only [rencpb19, ↓brun_b, Nat.reduceAdd, Nat.reduceBEq]
  refine SQ.answer (rs := [.tmp 2, .tmp 3]) rfl rfl ?_
  simp -dsimp (decide := true) (disch := first | omega | simp (decide := true) only [rencpb16]) only [rencpb20, ↓brun_b, Nat.reduceAdd, Nat.reduceBEq, rho, bsl]
def rencpb21 :=
  (aI (aI (aI (aI rencpc2 rencpc3) (aI rencpc5 rencpc4)) (aI (aI @FC.c_length @I16.c_length) (aI @IC.at_val @IC.c_length))) (aI (aI (aI @IC.part_key @IC.part_ver) (aI @bwk_a @eq_self.{1})) (aI (aI @forall_const.{1} @implies_true.{0}) (aI @implies_true.{1} @sop_inv))))
set_option maxHeartbeats 4000000 in
theorem renc_good (F : Frm) (hw : F.wf) (B : Frm) (hB : Pure Try.prog 120 [.agg F.fc.c] (.tup [.agg B.fc.c, .v (.bool true)])) (hs : Pure Try.prog 104 [.agg F.fc.c, .agg B.fc.c] (.v (.bool true))) (hR : Pure Try.prog 122 [.agg F.fc.c] (.v (.bool true))) (hkk : 1 ≤ F.kind ∧ F.kind ≤ 12) (hr : rgtG F (forms F.kind) = true) (hg : good F) : SCall Try.prog 115 [.agg F.fc.c] [] fun r L => r = .ret (.tup [.slc 0 0 (bytesB F).length, .v (.int .i64 0)]) ∧ L = [bytR (bytesB F)] := by
  have h8 : F.tr.length < 4611686018427387904 := by have := hw.ltr; unfold reachBytes at this; omega
  have h9 : F.is.length < 4611686018427387904 := by have := hw.lis; unfold reachBytes at this; omega
  obtain ⟨k, hk⟩ : ∃ k : Nat, F.kind = k := ⟨F.kind.toNat, by omega⟩
  have hbe := outG_eq F k hk (by omega) (by omega)
  have hlen := bytes_len F hg
  have hf := form_calls F.kind
  unfold fstr at hf
  have f12 : (forms F.kind).length < 100 ∧ ∀ c ∈ forms F.kind, isLet c = true := by
    have : k = 1 ∨ k = 2 ∨ k = 3 ∨ k = 4 ∨ k = 5 ∨ k = 6 ∨ k = 7 ∨ k = 8 ∨ k = 9 ∨ k = 10 ∨ k = 11 ∨ k = 12 := by omega
    rw [hk]
    rcases this with rfl | rfl | rfl | rfl | rfl | rfl | rfl | rfl | rfl | rfl | rfl | rfl <;> decide
  obtain ⟨f1, f2⟩ := f12
  have hlim : ∀ c ∈ forms F.kind, lim F c := fun c hc => lim_of F hw c (f2 c hc) (List.all_eq_true.1 hr c hc)
  have hL := fun R K => eloop F (forms F.kind) f1 f2 hlim (by rw [hbe]; omega) h8 h9 R K _ rfl
  have hN := num150_own F.kind (by omega)
  refine SCall.mk (fn := Try.f115) (by kernel_rfl) rfl (Nat.le_of_ble_eq_true (by kernel_rfl)) ?_
  refine Sem.go (k := 1000) ?_
  simp -dsimp (decide := true) (disch := first | omega | simp (decide := true) only [rencpb16]) only [rencpb19, ↓brun_b, envOf, Nat.reduceBEq]
  refine SemOps.callq (k := 1000) cal.f120 (hB) rfl rfl rfl rfl (by simp only [bflat_a, frmF_flat]) (by simp only [bflat_a, frmF_flat]) (by simp -dsimp (decide := true) (disch := first | omega | simp (decide := true) only [rencpb16]) only [rencpb8]) ?_
  simp -dsimp (decide := true) (disch := first | omega | simp (decide := true) only [rencpb16]) only [rencpb19, ↓brun_b, Nat.reduceAdd, Nat.reduceBEq]
  refine SemOps.callq (k := 1000) cal.f104 (hs) rfl rfl rfl rfl (by simp only [bflat_a, frmF_flat]) (by simp only [bflat_a]) (by simp -dsimp (decide := true) (disch := first | omega | simp (decide := true) only [rencpb16]) only [rencpb8]) ?_
  simp -dsimp (decide := true) (disch := first | omega | simp (decide := true) only [rencpb16]) only [rencpb19, ↓brun_b, Nat.reduceAdd, Nat.reduceBEq]
  refine SemOps.callq (k := 1000) cal.f122 (hR) rfl rfl rfl rfl (by simp only [bflat_a, frmF_flat]) (by simp only [bflat_a]) (by simp -dsimp (decide := true) (disch := first | omega | simp (decide := true) only [rencpb16]) only [rencpb8]) ?_
  simp -dsimp (decide := true) (disch := first | omega | simp (decide := true) only [rencpb16]) only [rencpb19, ↓brun_b, Nat.reduceAdd, Nat.reduceBEq]
  refine SemOps.callo (k := 1000) cal.f150 hN rfl rfl rfl rfl (by simp only [bflat_a]) (brow_flat _) (by simp -dsimp (decide := true) (disch := first | omega | simp (decide := true) only [rencpb16]) only [rencpb19]) ?_
  simp -dsimp (decide := true) (disch := first | omega | simp (decide := true) only [rencpb16]) only [rencpb19, ↓brun_b, Nat.reduceAdd, Nat.reduceBEq]
  refine SemOps.callq (k := 1) cal.f151 (hf) rfl rfl rfl rfl (by simp only [bflat_a]) (by simp only [bflat_a]) (by simp -dsimp (decide := true) (disch := first | omega | simp (decide := true) only [rencpb16]) only [rencpb8]) ?_
  simp -dsimp (decide := true) (disch := first | omega | simp (decide := true) only [rencpb16]) only [rencpb19, ↓brun_b, Nat.reduceAdd]
  refine Sem.cutW [_] ⟨211, 0, [(1, .ptr 0 0 0), (6, .slc 1 0 (outG F (forms F.kind)).length), (7, .v (.string ⟨((forms F.kind)).toArray⟩)), (8, .v (.int .i64 (((forms F.kind)).length : Int)))], [some (.row ⟨95, 1, true, 151, fun _ => F.fc.c⟩), some (.row ⟨1, (outG F (forms F.kind)).length, true, 5, brow (outG F (forms F.kind))⟩)]⟩ ?_ ?_
  · refine Sem.weaken [0, 2] ?_ (hL _ _)
    (refine Wk.ofC ?_; simp -dsimp (decide := true) (disch := first | omega | simp (decide := true) only [rencpb16]) only [rencpb21, ↓brun_b, Nat.reduceAdd, Nat.reduceBEq])
  · refine Sem.go (k := 1000) ?_
    rw [hbe]
    simp -dsimp (decide := true) (disch := first | omega | simp (decide := true) only [rencpb16]) only [rencpb19, ↓brun_b, Nat.reduceAdd, Nat.reduceBEq]
    unfold bytR
    refine SQ.runL (rs := [.tmp 2, .tmp 3]) [1] _ _ rfl (And.intro rfl rfl) (by decide) rfl rfl ?_ ?_
    · simp -dsimp (decide := true) (disch := first | omega | simp (decide := true) only [rencpb16]) only [rencpb21, Nat.reduceAdd]
    · simp -dsimp (decide := true) (disch := first | omega | simp (decide := true) only [rencpb16]) only [rencpb21, ↓brun_b, Nat.reduceAdd, Nat.reduceBEq]
theorem renc_pure (F : Frm) (hw : F.wf) : Pure Try.prog 115 [.agg F.fc.c] (eres F) := by
  unfold eres encode
  have h1 : F.tr.length < 4611686018427387904 := by have := hw.ltr; unfold reachBytes at this; omega
  have h2 : F.is.length < 4611686018427387904 := by have := hw.lis; unfold reachBytes at this; omega
  by_cases hk : F.kind < 1 ∨ 12 < F.kind
  · have h : ¬ encOk F = true := fun h => by
      have h3 := ((encOk_good F hw).1 h)
      have h4 := h3.1
      have h5 := h3.2.1
      unfold Frm.k at h4 h5
      omega
    rw [if_neg h]
    exact renc_none F hk
  · obtain ⟨k, hkk⟩ : ∃ k : Nat, F.kind = k := ⟨F.kind.toNat, by omega⟩
    have hFk : F.k = k := by unfold Frm.k; rw [hkk]; rfl
    have hB := bare_calls F hw k hkk (by omega) (by omega)
    have hR := right_calls F hw k hkk (by omega) (by omega)
    have hS := same104_calls F (bare k F) h1 h2 (bare_tr k F h1) (bare_is k F h2)
    have hrg : rgtG F (forms F.kind) = rightB k F := by
      rw [hkk]
      have : k = 1 ∨ k = 2 ∨ k = 3 ∨ k = 4 ∨ k = 5 ∨ k = 6 ∨ k = 7 ∨ k = 8 ∨ k = 9 ∨ k = 10 ∨ k = 11 ∨ k = 12 := by omega
      rcases this with rfl | rfl | rfl | rfl | rfl | rfl | rfl | rfl | rfl | rfl | rfl | rfl
      · exact rgt_1 F
      · exact rgt_2 F
      · exact rgt_3 F
      · exact rgt_4 F
      · exact rgt_5 F
      · exact rgt_6 F
      · exact rgt_7 F
      · exact rgt_8 F
      · exact rgt_9 F
      · exact rgt_10 F
      · exact rgt_11 F
      · exact rgt_12 F
    have hE : encOk F = (rightB k F && frmEq (bare k F) F) := by unfold encOk; rw [hFk]
    cases hs : frmEq F (bare k F) with
    | false =>
      rw [hs] at hS
      have hs2 : frmEq (bare k F) F = false := by
        cases h : frmEq (bare k F) F with
        | false => rfl
        | true =>
          have := (frmEq_iff _ _).1 h
          rw [(frmEq_iff _ _).2 this.symm] at hs
          cases hs
      rw [if_neg (by rw [hE, hs2, Bool.and_false]; decide)]
      exact renc_bare F _ hB hS
    | true =>
      rw [hs] at hS
      have hs2 : frmEq (bare k F) F = true := (frmEq_iff _ _).2 ((frmEq_iff _ _).1 hs).symm
      cases hr : rightB k F with
      | false =>
        rw [hrg, hr] at hR
        rw [if_neg (by rw [hE, hr, Bool.false_and]; decide)]
        exact renc_right F _ hB hS hR
      | true =>
        have hok : encOk F = true := by rw [hE, hr, hs2]; rfl
        rw [hrg, hr] at hR
        rw [if_pos hok]
        exact bytes_tell (renc_good F hw _ hB hS hR (by omega) (by rw [hrg, hr]) ((encOk_good F hw).1 hok))
end Go.Proofs
