/- Contracts of functions that the laws reach, on abstract values, and what they need: no conditions but those that each theorem states. -/
import Derived.Test.YtheodenjjaoncaaSlY
import Derived.Test.YtheodenjjaoncaaBodP
import Derived.Test.YtheodenjjaoncaaFcP
import Derived.Test.YtheodenjjaoncaaDecP1
import Derived.Test.YtheodenjjaoncaaHelP
import Derived.Test.YtheodenjjaoncaaDecP2
set_option linter.unusedVariables false
set_option linter.unusedSimpArgs false
set_option linter.defProp false
namespace Go.Proofs
open Go Go.SL
set_option maxRecDepth 100000
theorem isl_flat (t : List I16) : (SV.rsl 16 (idrs t)).flat = true := by simp only [flat_rsl, idrs_flat]
theorem meth230 : Meth Try.prog 230 "Kind" 194 := fun v w => by kernel_rfl
def kinpc0 :=
  (And.intro (And.intro (And.intro @AD.c_length @AK.c_length) (And.intro @CP.c_length @DR.c_length)) (And.intro (And.intro @GT.c_length @PE.c_length) (And.intro @PK.c_length (And.intro @PT.c_length @SU.c_length))))
def kinpc1 :=
  (And.intro (And.intro (And.intro @AD.flat @AK.flat) (And.intro @CP.flat (And.intro @DR.flat @GT.flat))) (And.intro (And.intro @PE.flat @PK.flat) (And.intro @PT.flat (And.intro @SU.flat @bsl_flat))))
def kinpc2 :=
  (And.intro (And.intro (And.intro @FC.flat_eq @FC.one_eq) (And.intro @H1.one @bdset_a)) (And.intro (And.intro @zD.eq_1 @zE.eq_1) (And.intro @zF.eq_1 (And.intro @zH.eq_1 @zK.eq_1))))
def kinpb0 :=
  (And.intro (And.intro (And.intro (And.intro kinpc0 kinpc1) (And.intro kinpc2 (And.intro @AD.one @AK.one))) (And.intro (And.intro @CP.one @DR.one) (And.intro @FC.c_length (And.intro @GT.one @H1.c_length)))) (And.intro (And.intro (And.intro @H1.flat @I16.c_length) (And.intro @PE.one (And.intro @PK.one @PT.one))) (And.intro (And.intro @SU.one (And.intro @idrs_flat @idrs_len)) (And.intro @lrow_len (And.intro @lrows_flat @lrows_length)))))
def kinpc3 :=
  (And.intro (And.intro (And.intro (And.intro @I16.part @Int.cast_ofNat_Int) (And.intro @List.replicate_succ.{0} (And.intro @List.replicate_zero.{0} @SKren_row))) (And.intro (And.intro @after_mk (And.intro @beq_self_eq_true.{0} @brun_a)) (And.intro @cellAt_succ (And.intro @cellAt_zero @cond_false.{1})))) (And.intro (And.intro (And.intro @cond_true.{1} @renL_cons) (And.intro @renL_nil (And.intro @ren_tup @tab.a144))) (And.intro (And.intro @tab.a2 (And.intro @tab.a23 @tab.s144)) (And.intro @tab.s2 (And.intro @tab.s23 @tab.u5)))))
def kinpb1 :=
  (And.intro (And.intro kinpc0 (And.intro kinpc3 @FC.c_length)) (And.intro @FC.ent (And.intro @H1.c_length @I16.c_length)))
def kinpb2 :=
  (And.intro (And.intro (And.intro kinpc3 @FC.c_length) (And.intro @H1.c_length @I16.c_length)) (And.intro (And.intro @bwk_a @eq_self.{1}) (And.intro @forall_const.{1} (And.intro @implies_true.{0} @implies_true.{1}))))
theorem kind_k5 (F : Frm) : Pure Try.prog 194 [.agg (DR.c ⟨F.who, .v (.int .i64 F.pn)⟩)] (.v (.int .i64 5)) := by
  refine SCall.mk (fn := Try.f194) (by kernel_rfl) rfl (Nat.le_of_ble_eq_true (by kernel_rfl)) ?_
  refine Sem.go (k := 1000) ?_
  simp -dsimp (decide := true) (disch := first | omega | simp (decide := true) only [kinpb0]) only [kinpb1, ↓brun_b, envOf]
  refine SQ.answer (rs := [.tmp 2]) rfl rfl ?_
  simp -dsimp (decide := true) (disch := first | omega | simp (decide := true) only [kinpb0]) only [kinpb2, ↓brun_b, rho]
def kinpb3 :=
  (And.intro (And.intro (And.intro kinpc1 @H1.flat) (And.intro @flatL_cons (And.intro @flatL_nil @flatR_brows))) (And.intro (And.intro @flat_agg @flat_rsl) (And.intro @flat_v (And.intro @idrs_flat @lrows_flat))))
theorem bodyF_5 (F : Frm) : (SV.agg (DR.c ⟨F.who, .v (.int .i64 F.pn)⟩)).flat = true := by
  simp (decide := true) only [kinpb3]
theorem bare_ent5 {fz : Nat → Option SB} {ρ : Nat → Nat} (F : Frm) : EntL fz ρ (bare 5 F).fc.c (FC.c { zF with kind := .v (.int .i64 5), who := F.who, pn := .v (.int .i64 F.pn) }) := by
  have e : bare 5 F = { kF 5 with who := F.who, pn := F.pn } := rfl
  rw [e]
  unfold kF zFrm Frm.fc zF
  rw [FC.ent]
  (repeat' apply And.intro) <;> first | exact Ent.self (flat_v _) | exact ent_nil _ | exact Ent.self (bsl_flat _) | exact Ent.self (lsl_flat _) | exact Ent.self (isl_flat _)
theorem plainB_5 (F : Frm) : Pure Try.prog 123 [.ifc 230 (.agg (DR.c ⟨F.who, .v (.int .i64 F.pn)⟩))] (.agg (bare 5 F).fc.c) :=
  SCall.tell [] (plain_k5 F.who F.pn) ⟨rfl, rfl, rfl, rfl, rfl, rfl, ⟨⟨_, rfl, bare_ent5 F⟩, trivial⟩, trivial⟩
end Go.Proofs
namespace Go.Proofs
open Go Go.SL
set_option maxRecDepth 100000
theorem strEq (l m : List UInt8) : decide ((⟨l.toArray⟩ : ByteArray) = ⟨m.toArray⟩) = decide (l = m) := by
  congr 1
  refine propext ⟨fun h => ?_, fun h => by rw [h]⟩
  have := congrArg ByteArray.data h
  simpa using this
theorem I16.ext' {a b : I16} (h : a.l = b.l) : a = b := by
  cases a
  cases b
  simp only at h
  subst h
  rfl
def frmEq (F H : Frm) : Bool :=
  decide (F.tr = H.tr) && (decide (F.is.map I16.l = H.is.map I16.l) && (decide (F.kind = H.kind) && ((decide (F.who.l = H.who.l) && decide (F.pn = H.pn)) && (decide (F.toA = H.toA) && (decide (F.a.l = H.a.l) && (decide (F.b.l = H.b.l) && (decide (F.n = H.n) &&
    ((decide (F.fi = H.fi) && decide (F.fn = H.fn)) && ((decide (F.ti = H.ti) && decide (F.tn = H.tn)) && (decide (F.op = H.op) && (decide (F.ttl = H.ttl) && (decide (F.tx = H.tx) && (decide (F.key.l = H.key.l) && ((decide (F.vn = H.vn) && decide (F.vwho.l = H.vwho.l)) && decide (F.val = H.val)))))))))))))))
theorem getD_ext {α : Type} (d : α) : ∀ (l m : List α), l.length = m.length → (∀ i, i < l.length → l.getD i d = m.getD i d) → l = m
  | [], [], _, _ => rfl
  | [], _ :: _, h, _ => by simp at h
  | _ :: _, [], h, _ => by simp at h
  | x :: l, y :: m, h, hh => by
    have h0 : x = y := by simpa using hh 0 (by simp)
    have := getD_ext d l m (by simpa using h) fun i hi => by simpa using hh (i + 1) (by simpa using hi)
    rw [h0, this]
def kinpb4 :=
  (And.intro (And.intro (And.intro kinpc2 @FC.c_length) (And.intro @H1.c_length (And.intro @H1.flat @I16.c_length))) (And.intro (And.intro @idrs_flat @idrs_len) (And.intro @lrow_len (And.intro @lrows_flat @lrows_length))))
def kinpc4 :=
  (And.intro (And.intro (And.intro (And.intro @FC.at_is @FC.at_kind) (And.intro @FC.at_n @FC.at_op)) (And.intro (And.intro @FC.at_toA @FC.at_tr) (And.intro @FC.at_ttl @FC.at_tx))) (And.intro (And.intro (And.intro @FC.at_val @FC.part_P) (And.intro @FC.part_a @FC.part_b)) (And.intro (And.intro @FC.part_from @FC.part_key) (And.intro @FC.part_to (And.intro @FC.part_ver @strEq)))))
def kinpc5 :=
  (And.intro (And.intro (And.intro (And.intro (And.intro @tab.a135 @tab.a145) (And.intro @tab.a147 @tab.a3)) (And.intro (And.intro @tab.a35 @tab.a4) (And.intro @tab.a79 (And.intro @tab.f149x0 @tab.f149x1)))) (And.intro (And.intro (And.intro @tab.f149x2 @tab.f151x0) (And.intro @tab.f151x1 @tab.f151x10)) (And.intro (And.intro @tab.f151x11 @tab.f151x12) (And.intro @tab.f151x13 (And.intro @tab.f151x2 @tab.f151x3))))) (And.intro (And.intro (And.intro (And.intro @tab.f151x4 @tab.f151x5) (And.intro @tab.f151x6 @tab.f151x7)) (And.intro (And.intro @tab.f151x8 @tab.f151x9) (And.intro @tab.s135 (And.intro @tab.s145 @tab.s147)))) (And.intro (And.intro (And.intro @tab.s3 @tab.s35) (And.intro @tab.s4 @tab.s79)) (And.intro (And.intro @tab.u145 @tab.u35) (And.intro @tab.u4 (And.intro @tab.u79 @tab.u9))))))
def kinpb5 :=
  (And.intro (And.intro (And.intro kinpc4 kinpc3) (And.intro kinpc5 @FC.c_length)) (And.intro (And.intro @H1.c_length @I16.c_length) (And.intro @idrs_len @lrows_length)))
def kinpb6 :=
  (And.intro (And.intro (And.intro kinpc3 kinpc5) (And.intro @FC.c_length (And.intro @H1.c_length @I16.c_length))) (And.intro (And.intro @bwk_a @eq_self.{1}) (And.intro @forall_const.{1} (And.intro @implies_true.{0} @implies_true.{1}))))
def kinpb7 :=
  (And.intro (And.intro (And.intro kinpc4 (And.intro kinpc3 kinpc5)) (And.intro @FC.c_length (And.intro @H1.c_length @I16.c_length))) (And.intro (And.intro @bwk_a (And.intro @eq_self.{1} @forall_const.{1})) (And.intro (And.intro @idrs_len @implies_true.{0}) (And.intro @implies_true.{1} @lrows_length))))
def kinpb8 :=
  (And.intro (And.intro @List.length_cons.{0} (And.intro @List.length_nil.{0} @Nat.zero_add)) (And.intro (And.intro @roL_nil @roL_none) (And.intro @roL_row @ro_mk)))
def kinpb9 :=
  (And.intro (And.intro (And.intro kinpc4 kinpc3) (And.intro kinpc5 (And.intro @FC.c_length @H1.c_length))) (And.intro (And.intro @I16.c_length (And.intro @idrs_len @lrow_cell)) (And.intro @lrow_len (And.intro @lrows_at @lrows_length))))
set_option maxHeartbeats 16000000 in
theorem same143_calls (F H : Frm) (h1 : F.tr.length < 4611686018427387904) (h2 : F.is.length < 4611686018427387904) (h3 : H.tr.length < 4611686018427387904) (h4 : H.is.length < 4611686018427387904) : Pure Try.prog 143 [.agg F.fc.c, .agg H.fc.c] (.v (.bool (frmEq F H))) := by
  have hb : ∀ a b : Bool, (a == b) = decide (a = b) := fun a b => by cases a <;> cases b <;> rfl
  by_cases hl1 : F.tr.length = H.tr.length
  rotate_left
  · have d1 : decide ((F.tr.length : Int) = (H.tr.length : Int)) = false := decide_eq_false (by omega)
    have hE : frmEq F H = false := by
      have : ¬ F.tr = H.tr := fun h => hl1 (by rw [h])
      simp only [frmEq, this, decide_false, Bool.false_and]
    rw [hE]
    refine SCall.mk (fn := Try.f143) (by kernel_rfl) rfl (Nat.le_of_ble_eq_true (by kernel_rfl)) ?_
    refine Sem.go (k := 1000) ?_
    simp -dsimp (decide := true) (disch := first | omega | simp (decide := true) only [kinpb4]) only [kinpb5, ↓brun_b, envOf, Nat.reduceAdd, Nat.reduceBEq, Frm.fc, d1]
    refine SQ.answer (rs := [.tmp 4]) rfl rfl ?_
    simp -dsimp (decide := true) (disch := first | omega | simp (decide := true) only [kinpb4]) only [kinpb6, ↓brun_b, Nat.reduceAdd, rho]
  have d1 : decide ((F.tr.length : Int) = (H.tr.length : Int)) = true := decide_eq_true (by omega)
  by_cases hl2 : F.is.length = H.is.length
  rotate_left
  · have d2 : decide ((F.is.length : Int) = (H.is.length : Int)) = false := decide_eq_false (by omega)
    have hE : frmEq F H = false := by
      have : ¬ F.is.map I16.l = H.is.map I16.l := fun h => hl2 (by simpa using congrArg List.length h)
      simp only [frmEq, this, decide_false, Bool.false_and, Bool.and_false]
    rw [hE]
    refine SCall.mk (fn := Try.f143) (by kernel_rfl) rfl (Nat.le_of_ble_eq_true (by kernel_rfl)) ?_
    refine Sem.go (k := 1000) ?_
    simp -dsimp (decide := true) (disch := first | omega | simp (decide := true) only [kinpb4]) only [kinpb5, ↓brun_b, envOf, Nat.reduceAdd, Nat.reduceBEq, Frm.fc, d1, d2]
    refine SQ.answer (rs := [.tmp 4]) rfl rfl ?_
    simp -dsimp (decide := true) (disch := first | omega | simp (decide := true) only [kinpb4]) only [kinpb6, ↓brun_b, Nat.reduceAdd, rho]
  have d2 : decide ((F.is.length : Int) = (H.is.length : Int)) = true := decide_eq_true (by omega)
  refine SCall.mk (fn := Try.f143) (by kernel_rfl) rfl (Nat.le_of_ble_eq_true (by kernel_rfl)) ?_
  refine Sem.go (k := 1000) ?_
  simp -dsimp (decide := true) (disch := first | omega | simp (decide := true) only [kinpb4]) only [kinpb5, ↓brun_b, envOf, Nat.reduceAdd, Nat.reduceBEq, Frm.fc, d1, d2]
  refine Sem.loop (ι := {k : Nat // k ≤ F.tr.length ∧ ∀ i, i < k → F.tr.getD i 0 = H.tr.getD i 0}) (fun k => ⟨165, 0, [(2, .ptr 0 0 0), (3, .ptr 1 0 0), (4, .v (.bool false)), (25, .v (.int .i64 (F.tr.length : Int))), (26, .v (.int .i64 (k.1 : Int)))], [some (.row ⟨95, 1, true, 151, fun _ => F.fc.c⟩), some (.row ⟨95, 1, true, 151, fun _ => H.fc.c⟩)]⟩) (fun k => F.tr.length - k.1) ⟨0, by omega, fun i hi => by omega⟩ [0, 1] ?_ ?_
  · (refine Wk.ofC ?_; simp -dsimp (decide := true) (disch := first | omega | simp (decide := true) only [kinpb4]) only [kinpb7, ↓brun_b, Nat.reduceAdd, Nat.reduceBEq, Frm.fc])
  · rintro ⟨k, hk, hall⟩
    refine Sem.go (k := 1000) ?_
    simp -dsimp (decide := true) (disch := first | omega | simp (decide := true) only [kinpb4]) only [kinpb5, ↓brun_b, Nat.reduceAdd, Nat.reduceBEq, Frm.fc]
    refine SCond.split (fun h5 => ?_) (fun h5 => ?_)
    · simp only [decide_eq_true_eq] at h5
      have hk' : k < F.tr.length := by omega
      have hkG : k < H.tr.length := by omega
      have hw : IntKind.i64.wrap ((k : Int) + 1) = ((k + 1 : Nat) : Int) := by rw [wrap_i64 _ (by omega)]; rfl
      simp -dsimp (decide := true) (disch := first | omega | simp (decide := true) only [kinpb4]) only [kinpb5, ↓brun_b, Nat.reduceAdd, Nat.reduceBEq]
      refine Sem.draw' (by kernel_rfl) (.one 0 (.one 1 (.one 2 (.one 3 (.one 4 (.one 5 (.one 6 (.one 7 (.one 8 (.one 9 (.one 10 .done))))))))))) [] (by kernel_rfl) (fun G ff hG hf => ?_)
      simp (decide := true) only [kinpb8, Nat.reduceAdd] at hG ⊢
      simp -dsimp (decide := true) (disch := first | omega | simp (decide := true) only [kinpb4]) only [kinpb9, ↓brun_b, Nat.reduceAdd, Nat.reduceBEq, Nat.reduceLeDiff, hG]
      refine And.intro (by omega) (And.intro (by omega) ?_)
      cases hd : decide (F.tr.getD k 0 = H.tr.getD k 0) with
      | true =>
        refine hf _ (Sem.go (k := 1000) ?_)
        simp (decide := true) only [back_mk, backL_row, backL_nil, Nat.zero_add, Nat.reduceAdd]
        simp -dsimp (decide := true) (disch := first | omega | simp (decide := true) only [kinpb4]) only [kinpb5, ↓brun_b, Nat.reduceAdd, Nat.reduceBEq, hw]
        have he : F.tr.getD k 0 = H.tr.getD k 0 := of_decide_eq_true hd
        refine ⟨⟨k + 1, by omega, fun i hi => ?_⟩, [0, 1], ?_, by show F.tr.length - (k + 1) < F.tr.length - k; omega⟩
        · by_cases e : i = k
          · rw [e]; exact he
          · exact hall i (by omega)
        · (refine Wk.ofC ?_; simp -dsimp (decide := true) (disch := first | omega | simp (decide := true) only [kinpb4]) only [kinpb7, ↓brun_b, Nat.reduceAdd, Nat.reduceBEq])
      | false =>
        refine hf _ (Sem.go (k := 1000) ?_)
        simp (decide := true) only [back_mk, backL_row, backL_nil, Nat.zero_add, Nat.reduceAdd]
        simp -dsimp (decide := true) (disch := first | omega | simp (decide := true) only [kinpb4]) only [kinpb5, ↓brun_b, Nat.reduceAdd]
        have hE : frmEq F H = false := by
          have : ¬ F.tr = H.tr := fun h => of_decide_eq_false hd (by rw [h])
          simp only [frmEq, this, decide_false, Bool.false_and]
        rw [hE]
        refine SQ.answer (rs := [.tmp 4]) rfl rfl ?_
        simp -dsimp (decide := true) (disch := first | omega | simp (decide := true) only [kinpb4]) only [kinpb6, ↓brun_b, Nat.reduceAdd, rho]
    · simp only [decide_eq_false_iff_not] at h5
      obtain rfl : k = F.tr.length := by omega
      have ht : F.tr = H.tr := getD_ext 0 _ _ hl1 hall
      simp -dsimp (decide := true) (disch := first | omega | simp (decide := true) only [kinpb4]) only [kinpb5, ↓brun_b, reduceIte, Nat.reduceAdd, Nat.reduceBEq]
      refine Sem.loop (ι := {k : Nat // k ≤ F.is.length ∧ ∀ i, i < k → F.is.getD i I16.zero = H.is.getD i I16.zero}) (fun k => ⟨165, 0, [(2, .ptr 0 0 0), (3, .ptr 1 0 0), (4, .v (.bool false)), (43, .v (.int .i64 (F.is.length : Int))), (44, .v (.int .i64 (k.1 : Int)))], [some (.row ⟨95, 1, true, 151, fun _ => F.fc.c⟩), some (.row ⟨95, 1, true, 151, fun _ => H.fc.c⟩)]⟩) (fun k => F.is.length - k.1) ⟨0, by omega, fun i hi => by omega⟩ [0, 1] ?_ ?_
      · (refine Wk.ofC ?_; simp -dsimp (decide := true) (disch := first | omega | simp (decide := true) only [kinpb4]) only [kinpb7, ↓brun_b, Nat.reduceAdd, Nat.reduceBEq, Frm.fc])
      · rintro ⟨k, hk, hall⟩
        refine Sem.go (k := 1000) ?_
        simp -dsimp (decide := true) (disch := first | omega | simp (decide := true) only [kinpb4]) only [kinpb5, ↓brun_b, Nat.reduceAdd, Nat.reduceBEq, Frm.fc]
        refine SCond.split (fun h6 => ?_) (fun h6 => ?_)
        · simp only [decide_eq_true_eq] at h6
          have hk' : k < F.is.length := by omega
          have hkG : k < H.is.length := by omega
          have hw : IntKind.i64.wrap ((k : Int) + 1) = ((k + 1 : Nat) : Int) := by rw [wrap_i64 _ (by omega)]; rfl
          simp -dsimp (decide := true) (disch := first | omega | simp (decide := true) only [kinpb4]) only [kinpb5, ↓brun_b, Nat.reduceAdd, Nat.reduceBEq]
          refine Sem.draw' (by kernel_rfl) (.one 0 (.one 1 (.one 2 (.one 3 (.one 4 (.one 5 (.one 6 (.one 7 (.one 8 (.one 9 (.one 10 .done))))))))))) [] (by kernel_rfl) (fun G ff hG hf => ?_)
          simp (decide := true) only [kinpb8, Nat.reduceAdd] at hG ⊢
          simp -dsimp (decide := true) (disch := first | omega | simp (decide := true) only [kinpb4]) only [kinpb5, ↓brun_b, Nat.reduceAdd, Nat.reduceBEq, Nat.reduceLeDiff, sBin_agg .neq 23 _ _ _ (I16.cellsEq _ _), hG, idrs_at _ _ hk' I16.zero, idrs_at _ _ hkG I16.zero]
          refine And.intro (by omega) (And.intro (by omega) (And.intro (flat23 _ _) ?_))
          cases hd : decide ((F.is.getD k I16.zero).l = (H.is.getD k I16.zero).l) with
          | true =>
            refine hf _ (Sem.go (k := 1000) ?_)
            simp (decide := true) only [back_mk, backL_row, backL_nil, Nat.zero_add, Nat.reduceAdd]
            simp -dsimp (decide := true) (disch := first | omega | simp (decide := true) only [kinpb4]) only [kinpb5, ↓brun_b, Nat.reduceAdd, Nat.reduceBEq, hw]
            have he : F.is.getD k I16.zero = H.is.getD k I16.zero := I16.ext' (of_decide_eq_true hd)
            refine ⟨⟨k + 1, by omega, fun i hi => ?_⟩, [0, 1], ?_, by show F.is.length - (k + 1) < F.is.length - k; omega⟩
            · by_cases e : i = k
              · rw [e]; exact he
              · exact hall i (by omega)
            · (refine Wk.ofC ?_; simp -dsimp (decide := true) (disch := first | omega | simp (decide := true) only [kinpb4]) only [kinpb7, ↓brun_b, Nat.reduceAdd, Nat.reduceBEq])
          | false =>
            refine hf _ (Sem.go (k := 1000) ?_)
            simp (decide := true) only [back_mk, backL_row, backL_nil, Nat.zero_add, Nat.reduceAdd]
            simp -dsimp (decide := true) (disch := first | omega | simp (decide := true) only [kinpb4]) only [kinpb5, ↓brun_b, Nat.reduceAdd]
            have hE : frmEq F H = false := by
              have : ¬ F.is.map I16.l = H.is.map I16.l := fun h => of_decide_eq_false hd (by
                have h7 : (F.is.map I16.l).getD k [] = (H.is.map I16.l).getD k [] := by rw [h]
                simpa [List.getD_eq_getElem?_getD, List.getElem?_eq_getElem hk', List.getElem?_eq_getElem hkG] using h7)
              simp only [frmEq, this, decide_false, Bool.false_and, Bool.and_false]
            rw [hE]
            refine SQ.answer (rs := [.tmp 4]) rfl rfl ?_
            simp -dsimp (decide := true) (disch := first | omega | simp (decide := true) only [kinpb4]) only [kinpb6, ↓brun_b, Nat.reduceAdd, rho]
        · simp only [decide_eq_false_iff_not] at h6
          obtain rfl : k = F.is.length := by omega
          have hi : F.is = H.is := getD_ext I16.zero _ _ hl2 hall
          simp only [lapp_cons, lapp_nil]
          cases ek : decide (F.kind = H.kind) with
          | false =>
            simp -dsimp (decide := true) (disch := first | omega | simp (decide := true) only [kinpb4]) only [kinpb5, ↓brun_b, reduceIte, Nat.reduceAdd, Nat.reduceBEq, ek]
            (repeat' first | exact flat144 _ _ _ _ | exact flat23 _ _ | exact flat135 _ _ _ _ | exact flat147 _ _ _ _ | refine And.intro ?_ ?_)
            have hE : frmEq F H = false := by simp only [frmEq, ht, hi, ek, decide_true, Bool.true_and, Bool.false_and]
            rw [hE]
            refine SQ.answer (rs := [.tmp 4]) rfl rfl ?_
            simp -dsimp (decide := true) (disch := first | omega | simp (decide := true) only [kinpb4]) only [kinpb6, ↓brun_b, Nat.reduceAdd, rho]
          | true =>
            cases ep : (decide (F.who.l = H.who.l) && decide (F.pn = H.pn)) with
            | false =>
              simp -dsimp (decide := true) (disch := first | omega | simp (decide := true) only [kinpb4]) only [kinpb5, ↓brun_b, reduceIte, Nat.reduceAdd, Nat.reduceBEq, sBin_agg .eql 144 _ _ _ (ceq144 _ _ _ _), ek, ep]
              (repeat' first | exact flat144 _ _ _ _ | exact flat23 _ _ | exact flat135 _ _ _ _ | exact flat147 _ _ _ _ | refine And.intro ?_ ?_)
              have hE : frmEq F H = false := by simp only [frmEq, ht, hi, ek, ep, decide_true, Bool.true_and, Bool.false_and]
              rw [hE]
              refine SQ.answer (rs := [.tmp 4]) rfl rfl ?_
              simp -dsimp (decide := true) (disch := first | omega | simp (decide := true) only [kinpb4]) only [kinpb6, ↓brun_b, Nat.reduceAdd, rho]
            | true =>
              cases et : decide (F.toA = H.toA) with
              | false =>
                simp -dsimp (decide := true) (disch := first | omega | simp (decide := true) only [kinpb4]) only [kinpb5, ↓brun_b, reduceIte, Nat.reduceAdd, Nat.reduceBEq, sBin_agg .eql 144 _ _ _ (ceq144 _ _ _ _), hb, ek, ep, et]
                (repeat' first | exact flat144 _ _ _ _ | exact flat23 _ _ | exact flat135 _ _ _ _ | exact flat147 _ _ _ _ | refine And.intro ?_ ?_)
                have hE : frmEq F H = false := by simp only [frmEq, ht, hi, ek, ep, et, decide_true, Bool.true_and, Bool.false_and]
                rw [hE]
                refine SQ.answer (rs := [.tmp 4]) rfl rfl ?_
                simp -dsimp (decide := true) (disch := first | omega | simp (decide := true) only [kinpb4]) only [kinpb6, ↓brun_b, Nat.reduceAdd, rho]
              | true =>
                cases ea : decide (F.a.l = H.a.l) with
                | false =>
                  simp -dsimp (decide := true) (disch := first | omega | simp (decide := true) only [kinpb4]) only [kinpb5, ↓brun_b, reduceIte, Nat.reduceAdd, Nat.reduceBEq, sBin_agg .eql 23 _ _ _ (I16.cellsEq _ _), sBin_agg .eql 144 _ _ _ (ceq144 _ _ _ _), hb, ek, ep, et, ea]
                  (repeat' first | exact flat144 _ _ _ _ | exact flat23 _ _ | exact flat135 _ _ _ _ | exact flat147 _ _ _ _ | refine And.intro ?_ ?_)
                  have hE : frmEq F H = false := by simp only [frmEq, ht, hi, ek, ep, et, ea, decide_true, Bool.true_and, Bool.false_and]
                  rw [hE]
                  refine SQ.answer (rs := [.tmp 4]) rfl rfl ?_
                  simp -dsimp (decide := true) (disch := first | omega | simp (decide := true) only [kinpb4]) only [kinpb6, ↓brun_b, Nat.reduceAdd, rho]
                | true =>
                  cases eb : decide (F.b.l = H.b.l) with
                  | false =>
                    simp -dsimp (decide := true) (disch := first | omega | simp (decide := true) only [kinpb4]) only [kinpb5, ↓brun_b, reduceIte, Nat.reduceAdd, Nat.reduceBEq, sBin_agg .eql 23 _ _ _ (I16.cellsEq _ _), sBin_agg .eql 144 _ _ _ (ceq144 _ _ _ _), hb, ek, ep, et, ea, eb]
                    (repeat' first | exact flat144 _ _ _ _ | exact flat23 _ _ | exact flat135 _ _ _ _ | exact flat147 _ _ _ _ | refine And.intro ?_ ?_)
                    have hE : frmEq F H = false := by simp only [frmEq, ht, hi, ek, ep, et, ea, eb, decide_true, Bool.true_and, Bool.false_and]
                    rw [hE]
                    refine SQ.answer (rs := [.tmp 4]) rfl rfl ?_
                    simp -dsimp (decide := true) (disch := first | omega | simp (decide := true) only [kinpb4]) only [kinpb6, ↓brun_b, Nat.reduceAdd, rho]
                  | true =>
                    cases en : decide (F.n = H.n) with
                    | false =>
                      simp -dsimp (decide := true) (disch := first | omega | simp (decide := true) only [kinpb4]) only [kinpb5, ↓brun_b, reduceIte, Nat.reduceAdd, Nat.reduceBEq, sBin_agg .eql 23 _ _ _ (I16.cellsEq _ _), sBin_agg .eql 144 _ _ _ (ceq144 _ _ _ _), hb, ek, ep, et, ea, eb, en]
                      (repeat' first | exact flat144 _ _ _ _ | exact flat23 _ _ | exact flat135 _ _ _ _ | exact flat147 _ _ _ _ | refine And.intro ?_ ?_)
                      have hE : frmEq F H = false := by simp only [frmEq, ht, hi, ek, ep, et, ea, eb, en, decide_true, Bool.true_and, Bool.false_and]
                      rw [hE]
                      refine SQ.answer (rs := [.tmp 4]) rfl rfl ?_
                      simp -dsimp (decide := true) (disch := first | omega | simp (decide := true) only [kinpb4]) only [kinpb6, ↓brun_b, Nat.reduceAdd, rho]
                    | true =>
                      cases ef : (decide (F.fi = H.fi) && decide (F.fn = H.fn)) with
                      | false =>
                        simp -dsimp (decide := true) (disch := first | omega | simp (decide := true) only [kinpb4]) only [kinpb5, ↓brun_b, reduceIte, Nat.reduceAdd, Nat.reduceBEq, sBin_agg .eql 23 _ _ _ (I16.cellsEq _ _), sBin_agg .eql 135 _ _ _ (ceq135 _ _ _ _), sBin_agg .eql 144 _ _ _ (ceq144 _ _ _ _), hb, ek, ep, et, ea, eb, en, ef]
                        (repeat' first | exact flat144 _ _ _ _ | exact flat23 _ _ | exact flat135 _ _ _ _ | exact flat147 _ _ _ _ | refine And.intro ?_ ?_)
                        have hE : frmEq F H = false := by simp only [frmEq, ht, hi, ek, ep, et, ea, eb, en, ef, decide_true, Bool.true_and, Bool.false_and]
                        rw [hE]
                        refine SQ.answer (rs := [.tmp 4]) rfl rfl ?_
                        simp -dsimp (decide := true) (disch := first | omega | simp (decide := true) only [kinpb4]) only [kinpb6, ↓brun_b, Nat.reduceAdd, rho]
                      | true =>
                        cases eg : (decide (F.ti = H.ti) && decide (F.tn = H.tn)) with
                        | false =>
                          simp -dsimp (decide := true) (disch := first | omega | simp (decide := true) only [kinpb4]) only [kinpb5, ↓brun_b, reduceIte, Nat.reduceAdd, Nat.reduceBEq, sBin_agg .eql 23 _ _ _ (I16.cellsEq _ _), sBin_agg .eql 135 _ _ _ (ceq135 _ _ _ _), sBin_agg .eql 144 _ _ _ (ceq144 _ _ _ _), hb, ek, ep, et, ea, eb, en, ef, eg]
                          (repeat' first | exact flat144 _ _ _ _ | exact flat23 _ _ | exact flat135 _ _ _ _ | exact flat147 _ _ _ _ | refine And.intro ?_ ?_)
                          have hE : frmEq F H = false := by simp only [frmEq, ht, hi, ek, ep, et, ea, eb, en, ef, eg, decide_true, Bool.true_and, Bool.false_and]
                          rw [hE]
                          refine SQ.answer (rs := [.tmp 4]) rfl rfl ?_
                          simp -dsimp (decide := true) (disch := first | omega | simp (decide := true) only [kinpb4]) only [kinpb6, ↓brun_b, Nat.reduceAdd, rho]
                        | true =>
                          cases eo : decide (F.op = H.op) with
                          | false =>
                            simp -dsimp (decide := true) (disch := first | omega | simp (decide := true) only [kinpb4]) only [kinpb5, ↓brun_b, reduceIte, Nat.reduceAdd, Nat.reduceBEq, sBin_agg .eql 23 _ _ _ (I16.cellsEq _ _), sBin_agg .eql 135 _ _ _ (ceq135 _ _ _ _), sBin_agg .eql 144 _ _ _ (ceq144 _ _ _ _), hb, ek, ep, et, ea, eb, en, ef, eg, eo]
                            (repeat' first | exact flat144 _ _ _ _ | exact flat23 _ _ | exact flat135 _ _ _ _ | exact flat147 _ _ _ _ | refine And.intro ?_ ?_)
                            have hE : frmEq F H = false := by simp only [frmEq, ht, hi, ek, ep, et, ea, eb, en, ef, eg, eo, decide_true, Bool.true_and, Bool.false_and]
                            rw [hE]
                            refine SQ.answer (rs := [.tmp 4]) rfl rfl ?_
                            simp -dsimp (decide := true) (disch := first | omega | simp (decide := true) only [kinpb4]) only [kinpb6, ↓brun_b, Nat.reduceAdd, rho]
                          | true =>
                            cases el : decide (F.ttl = H.ttl) with
                            | false =>
                              simp -dsimp (decide := true) (disch := first | omega | simp (decide := true) only [kinpb4]) only [kinpb5, ↓brun_b, reduceIte, Nat.reduceAdd, Nat.reduceBEq, sBin_agg .eql 23 _ _ _ (I16.cellsEq _ _), sBin_agg .eql 135 _ _ _ (ceq135 _ _ _ _), sBin_agg .eql 144 _ _ _ (ceq144 _ _ _ _), hb, ek, ep, et, ea, eb, en, ef, eg, eo, el]
                              (repeat' first | exact flat144 _ _ _ _ | exact flat23 _ _ | exact flat135 _ _ _ _ | exact flat147 _ _ _ _ | refine And.intro ?_ ?_)
                              have hE : frmEq F H = false := by simp only [frmEq, ht, hi, ek, ep, et, ea, eb, en, ef, eg, eo, el, decide_true, Bool.true_and, Bool.false_and]
                              rw [hE]
                              refine SQ.answer (rs := [.tmp 4]) rfl rfl ?_
                              simp -dsimp (decide := true) (disch := first | omega | simp (decide := true) only [kinpb4]) only [kinpb6, ↓brun_b, Nat.reduceAdd, rho]
                            | true =>
                              cases ex : decide (F.tx = H.tx) with
                              | false =>
                                simp -dsimp (decide := true) (disch := first | omega | simp (decide := true) only [kinpb4]) only [kinpb5, ↓brun_b, reduceIte, Nat.reduceAdd, Nat.reduceBEq, sBin_agg .eql 23 _ _ _ (I16.cellsEq _ _), sBin_agg .eql 135 _ _ _ (ceq135 _ _ _ _), sBin_agg .eql 144 _ _ _ (ceq144 _ _ _ _), hb, ek, ep, et, ea, eb, en, ef, eg, eo, el, ex]
                                (repeat' first | exact flat144 _ _ _ _ | exact flat23 _ _ | exact flat135 _ _ _ _ | exact flat147 _ _ _ _ | refine And.intro ?_ ?_)
                                have hE : frmEq F H = false := by simp only [frmEq, ht, hi, ek, ep, et, ea, eb, en, ef, eg, eo, el, ex, decide_true, Bool.true_and, Bool.false_and]
                                rw [hE]
                                refine SQ.answer (rs := [.tmp 4]) rfl rfl ?_
                                simp -dsimp (decide := true) (disch := first | omega | simp (decide := true) only [kinpb4]) only [kinpb6, ↓brun_b, Nat.reduceAdd, rho]
                              | true =>
                                cases ey : decide (F.key.l = H.key.l) with
                                | false =>
                                  simp -dsimp (decide := true) (disch := first | omega | simp (decide := true) only [kinpb4]) only [kinpb5, ↓brun_b, reduceIte, Nat.reduceAdd, Nat.reduceBEq, sBin_agg .eql 23 _ _ _ (I16.cellsEq _ _), sBin_agg .eql 135 _ _ _ (ceq135 _ _ _ _), sBin_agg .eql 144 _ _ _ (ceq144 _ _ _ _), hb, ek, ep, et, ea, eb, en, ef, eg, eo, el, ex, ey]
                                  (repeat' first | exact flat144 _ _ _ _ | exact flat23 _ _ | exact flat135 _ _ _ _ | exact flat147 _ _ _ _ | refine And.intro ?_ ?_)
                                  have hE : frmEq F H = false := by simp only [frmEq, ht, hi, ek, ep, et, ea, eb, en, ef, eg, eo, el, ex, ey, decide_true, Bool.true_and, Bool.false_and]
                                  rw [hE]
                                  refine SQ.answer (rs := [.tmp 4]) rfl rfl ?_
                                  simp -dsimp (decide := true) (disch := first | omega | simp (decide := true) only [kinpb4]) only [kinpb6, ↓brun_b, Nat.reduceAdd, rho]
                                | true =>
                                  cases ev : (decide (F.vn = H.vn) && decide (F.vwho.l = H.vwho.l)) with
                                  | false =>
                                    simp -dsimp (decide := true) (disch := first | omega | simp (decide := true) only [kinpb4]) only [kinpb5, ↓brun_b, reduceIte, Nat.reduceAdd, Nat.reduceBEq, sBin_agg .eql 23 _ _ _ (I16.cellsEq _ _), sBin_agg .eql 135 _ _ _ (ceq135 _ _ _ _), sBin_agg .eql 144 _ _ _ (ceq144 _ _ _ _), sBin_agg .eql 147 _ _ _ (ceq147 _ _ _ _), hb, ek, ep, et, ea, eb, en, ef, eg, eo, el, ex, ey, ev]
                                    (repeat' first | exact flat144 _ _ _ _ | exact flat23 _ _ | exact flat135 _ _ _ _ | exact flat147 _ _ _ _ | refine And.intro ?_ ?_)
                                    have hE : frmEq F H = false := by simp only [frmEq, ht, hi, ek, ep, et, ea, eb, en, ef, eg, eo, el, ex, ey, ev, decide_true, Bool.true_and, Bool.false_and]
                                    rw [hE]
                                    refine SQ.answer (rs := [.tmp 4]) rfl rfl ?_
                                    simp -dsimp (decide := true) (disch := first | omega | simp (decide := true) only [kinpb4]) only [kinpb6, ↓brun_b, Nat.reduceAdd, rho]
                                  | true =>
                                    simp -dsimp (decide := true) (disch := first | omega | simp (decide := true) only [kinpb4]) only [kinpb5, ↓brun_b, reduceIte, Nat.reduceAdd, Nat.reduceBEq, sBin_agg .eql 23 _ _ _ (I16.cellsEq _ _), sBin_agg .eql 135 _ _ _ (ceq135 _ _ _ _), sBin_agg .eql 144 _ _ _ (ceq144 _ _ _ _), sBin_agg .eql 147 _ _ _ (ceq147 _ _ _ _), hb, ek, ep, et, ea, eb, en, ef, eg, eo, el, ex, ey, ev]
                                    (repeat' first | exact flat144 _ _ _ _ | exact flat23 _ _ | exact flat135 _ _ _ _ | exact flat147 _ _ _ _ | refine And.intro ?_ ?_)
                                    have hE : frmEq F H = decide (F.val = H.val) := by simp only [frmEq, ht, hi, ek, ep, et, ea, eb, en, ef, eg, eo, el, ex, ey, ev, decide_true, Bool.true_and]
                                    rw [hE]
                                    refine SQ.answer (rs := [.tmp 4]) rfl rfl ?_
                                    simp -dsimp (decide := true) (disch := first | omega | simp (decide := true) only [kinpb4]) only [kinpb6, ↓brun_b, Nat.reduceAdd, rho]
end Go.Proofs
