/- Contracts of functions that the laws reach, on abstract values, and what they need: no conditions but those that each theorem states. -/
import Derived.Test.YtheodenjjaoncaaDecP1
set_option linter.unusedVariables false
set_option linter.unusedSimpArgs false
set_option linter.defProp false
namespace Go.Proofs
open Go Go.SL
set_option maxRecDepth 100000
theorem bs79 (N : Nat) (x : I16) : sBuildSlice Try.prog N 79 1 [(0, .agg x.c)] = some ⟨.slc N 0 1, ⟨none, some (.row ⟨16, 1, true, 23, fun e => (x.c.drop (e * 16)).take 16⟩)⟩, True⟩ :=
  buildSlice_one tab.u79 tab.s23 tab.z23 (by decide) rfl (by decide) x.c _ rfl (by rw [I16.c_length]) (I16.one x)
def decp2b0 :=
  (And.intro (And.intro (And.intro (And.intro @FC.c_length (And.intro @FC.flat_eq @FC.one_eq)) (And.intro (And.intro @I16.c_length @I16.flat) (And.intro @I16.one @IC.c_length))) (And.intro (And.intro (And.intro @IC.flat @IC.one) (And.intro @bcells_flat @bcells_length)) (And.intro (And.intro @bcells_one @bdset_a) (And.intro @brow_flat @brow_len)))) (And.intro (And.intro (And.intro (And.intro @bsl_flat @idrs_flat) (And.intro @idrs_len @lrow_len)) (And.intro (And.intro @lrows_flat @lrows_length) (And.intro @nres.flat @p144_flat))) (And.intro (And.intro (And.intro @p144_len @p144_one) (And.intro @tres.flat @urow_len)) (And.intro (And.intro @urows.flat @urows_length) (And.intro @z16_length @zF.eq_1)))))
def decp2c0 :=
  (And.intro (And.intro (And.intro (And.intro (And.intro @FC.at_is @FC.at_kind) (And.intro @FC.at_op (And.intro @FC.at_tr @FC.at_ttl))) (And.intro (And.intro @FC.part (And.intro @FC.set_P @FC.set_a)) (And.intro @FC.set_all (And.intro @FC.set_b @FC.set_from)))) (And.intro (And.intro (And.intro @FC.set_is @FC.set_it) (And.intro @FC.set_key (And.intro @FC.set_kind @FC.set_n))) (And.intro (And.intro @FC.set_op (And.intro @FC.set_to @FC.set_toA)) (And.intro @FC.set_tr (And.intro @FC.set_ttl @FC.set_tx))))) (And.intro (And.intro (And.intro (And.intro @FC.set_ver @Int.cast_ofNat_Int) (And.intro @SKren_row (And.intro @after_mk @al151))) (And.intro (And.intro @al37 (And.intro @b251 @brow_cell)) (And.intro @build151z (And.intro @cellAt_succ @cellAt_zero)))) (And.intro (And.intro (And.intro @mergeL_done (And.intro @mergeL_own @mergeL_row)) (And.intro @mk37 (And.intro @renL_cons @renL_flat))) (And.intro (And.intro @renL_nil (And.intro @ren_tup @sop_assert)) (And.intro @splice_0 (And.intro @splice_c @splice_s))))))
def decp2c1 :=
  (And.intro (And.intro (And.intro (And.intro (And.intro (And.intro @beq_self_eq_true.{0} @brun_a) (And.intro @cond_false.{1} @cond_true.{1})) (And.intro (And.intro @tab.a135 @tab.a144) (And.intro @tab.a145 @tab.a147))) (And.intro (And.intro (And.intro @tab.a149 @tab.a151) (And.intro @tab.a2 @tab.a23)) (And.intro (And.intro @tab.a3 @tab.a35) (And.intro @tab.a37 @tab.a4)))) (And.intro (And.intro (And.intro (And.intro @tab.a5 @tab.a79) (And.intro @tab.f144x0 @tab.f144x1)) (And.intro (And.intro @tab.f149x0 @tab.f149x1) (And.intro @tab.f149x2 @tab.f151x0))) (And.intro (And.intro (And.intro @tab.f151x1 @tab.f151x10) (And.intro @tab.f151x11 @tab.f151x12)) (And.intro (And.intro @tab.f151x13 @tab.f151x2) (And.intro @tab.f151x3 @tab.f151x4))))) (And.intro (And.intro (And.intro (And.intro (And.intro @tab.f151x5 @tab.f151x6) (And.intro @tab.f151x7 @tab.f151x8)) (And.intro (And.intro @tab.f151x9 @tab.f251x0) (And.intro @tab.f251x1 @tab.s135))) (And.intro (And.intro (And.intro @tab.s144 @tab.s145) (And.intro @tab.s147 @tab.s149)) (And.intro (And.intro @tab.s151 @tab.s2) (And.intro @tab.s23 @tab.s3)))) (And.intro (And.intro (And.intro (And.intro @tab.s35 @tab.s37) (And.intro @tab.s4 @tab.s5)) (And.intro (And.intro @tab.s79 @tab.u135) (And.intro @tab.u144 @tab.u145))) (And.intro (And.intro (And.intro @tab.u147 @tab.u2) (And.intro @tab.u23 @tab.u3)) (And.intro (And.intro @tab.u35 @tab.u37) (And.intro @tab.u4 (And.intro @tab.u5 @tab.u79)))))))
def decp2b1 :=
  (And.intro (And.intro decp2c0 decp2c1) (And.intro @FC.c_length @brow_len))
def decp2b2 :=
  (And.intro (And.intro (And.intro decp2c0 decp2c1) (And.intro @FC.c_length @brow_len)) (And.intro (And.intro @bwk_a @eq_self.{1}) (And.intro @forall_const.{1} (And.intro @implies_true.{0} @implies_true.{1}))))
set_option maxHeartbeats 4000000 in
theorem dec_bad (b : List UInt8) (hb : b.length ≤ 140737488355328) (e : Int) (h0 : rnum b 0 = .error e) : SCall Try.prog 117 [bsl b] [] (DR b) := by
  have hp0 : I64 0 := by unfold I64; omega
  have hc := (num_takes b 0 hb hp0).2 _ h0
  refine SCall.mkDefer (fn := Try.f117) (by kernel_rfl) rfl (Nat.le_of_ble_eq_true (by kernel_rfl)) ?_
  refine Sem.go (k := 1000) ?_
  simp -dsimp (decide := true) (maxSteps := 1000000) (disch := first | omega | simp (decide := true) only [decp2b0]) only [decp2b1, ↓brun_b, envOf, reduceIte, Nat.reduceEqDiff, Nat.reduceAdd, Nat.reduceSub, Nat.reduceMul, Nat.reduceBEq, Nat.reduceLeDiff, Nat.reduceLT, Int.reduceToNat, rho]
  refine ⟨_, _, _, _, _, _, rfl, rfl, rfl, rfl, rfl, rfl, Nat.lt_of_sub_pos (by decide : 0 < 206 - 5), ?_, cal.f152, ?_⟩
  · simp -dsimp (decide := true) (maxSteps := 1000000) (disch := first | omega | simp (decide := true) only [decp2b0]) only [decp2b1, ↓brun_b, envOf, reduceIte, Nat.reduceEqDiff, Nat.reduceAdd, Nat.reduceSub, Nat.reduceMul, Nat.reduceBEq, Nat.reduceLeDiff, Nat.reduceLT, Int.reduceToNat, rho]
  refine Sem.go (k := 1000) ?_
  simp -dsimp (decide := true) (maxSteps := 1000000) (disch := first | omega | simp (decide := true) only [decp2b0]) only [decp2b1, ↓brun_b, envOf, reduceIte, Nat.reduceEqDiff, Nat.reduceAdd, Nat.reduceSub, Nat.reduceMul, Nat.reduceBEq, Nat.reduceLeDiff, Nat.reduceLT, Int.reduceToNat, rho]
  refine SemOps.callPanL [2] cal.f153 (hc) (fun _ => rfl) rfl rfl rfl (by simp -dsimp (decide := true) (maxSteps := 1000000) (disch := first | omega | simp (decide := true) only [decp2b0]) only [decp2b2, ↓brun_b, envOf, reduceIte, Nat.reduceEqDiff, Nat.reduceAdd, Nat.reduceSub, Nat.reduceMul, Nat.reduceBEq, Nat.reduceLeDiff, Nat.reduceLT, Int.reduceToNat, rho, frz1, ↓reduceIte]) rfl (by simp -dsimp (decide := true) (maxSteps := 1000000) (disch := first | omega | simp (decide := true) only [decp2b0]) only [decp2b2, ↓brun_b, envOf, reduceIte, Nat.reduceEqDiff, Nat.reduceAdd, Nat.reduceSub, Nat.reduceMul, Nat.reduceBEq, Nat.reduceLeDiff, Nat.reduceLT, Int.reduceToNat, rho, frz1, ↓reduceIte]) (by simp -dsimp (decide := true) (maxSteps := 1000000) (disch := first | omega | simp (decide := true) only [decp2b0]) only [decp2c1, ↓brun_b, envOf, reduceIte, Nat.reduceEqDiff, Nat.reduceAdd, Nat.reduceSub, Nat.reduceMul, Nat.reduceBEq, Nat.reduceLeDiff, Nat.reduceLT, Int.reduceToNat]) ?_
  exact dec_panL (by decide) rfl rfl (FC.c_length _) rfl rfl rfl (decode_num h0)
set_option maxHeartbeats 4000000 in
theorem dec_un (b : List UInt8) (hb : b.length ≤ 140737488355328) (k : Nat) (q : Int) (h0 : rnum b 0 = .ok (k, q)) (hk : ¬ (1 ≤ k ∧ k ≤ 12)) : SCall Try.prog 117 [bsl b] [] (DR b) := by
  have hmin : min (k : Int) 99 = ((min k 99 : Nat) : Int) := by omega
  have hmin2 : (if (99 : Int) < (k : Int) then (99 : Int) else (k : Int)) = ((min k 99 : Nat) : Int) := by split <;> omega
  have d1 : decide (((min k 99 : Nat) : Int) = 1) = false := decide_eq_false (by omega)
  have d2 : decide (((min k 99 : Nat) : Int) = 2) = false := decide_eq_false (by omega)
  have d3 : decide (((min k 99 : Nat) : Int) = 3) = false := decide_eq_false (by omega)
  have d4 : decide (((min k 99 : Nat) : Int) = 4) = false := decide_eq_false (by omega)
  have d5 : decide (((min k 99 : Nat) : Int) = 5) = false := decide_eq_false (by omega)
  have d6 : decide (((min k 99 : Nat) : Int) = 6) = false := decide_eq_false (by omega)
  have d7 : decide (((min k 99 : Nat) : Int) = 7) = false := decide_eq_false (by omega)
  have d8 : decide (((min k 99 : Nat) : Int) = 8) = false := decide_eq_false (by omega)
  have d9 : decide (((min k 99 : Nat) : Int) = 9) = false := decide_eq_false (by omega)
  have d10 : decide (((min k 99 : Nat) : Int) = 10) = false := decide_eq_false (by omega)
  have d11 : decide (((min k 99 : Nat) : Int) = 11) = false := decide_eq_false (by omega)
  have d12 : decide (((min k 99 : Nat) : Int) = 12) = false := decide_eq_false (by omega)
  have hp0 : I64 0 := by unfold I64; omega
  have hq : I64 q := rnum_at.i64 hb h0
  have hc := (num_takes b 0 hb hp0).1 _ _ h0
  refine SCall.mkDefer (fn := Try.f117) (by kernel_rfl) rfl (Nat.le_of_ble_eq_true (by kernel_rfl)) ?_
  refine Sem.go (k := 1000) ?_
  simp -dsimp (decide := true) (maxSteps := 1000000) (disch := first | omega | simp (decide := true) only [decp2b0]) only [decp2b1, ↓brun_b, envOf, reduceIte, Nat.reduceEqDiff, Nat.reduceAdd, Nat.reduceSub, Nat.reduceMul, Nat.reduceBEq, Nat.reduceLeDiff, Nat.reduceLT, Int.reduceToNat, rho]
  refine ⟨_, _, _, _, _, _, rfl, rfl, rfl, rfl, rfl, rfl, Nat.lt_of_sub_pos (by decide : 0 < 206 - 5), ?_, cal.f152, ?_⟩
  · simp -dsimp (decide := true) (maxSteps := 1000000) (disch := first | omega | simp (decide := true) only [decp2b0]) only [decp2b1, ↓brun_b, envOf, reduceIte, Nat.reduceEqDiff, Nat.reduceAdd, Nat.reduceSub, Nat.reduceMul, Nat.reduceBEq, Nat.reduceLeDiff, Nat.reduceLT, Int.reduceToNat, rho]
  refine Sem.go (k := 1000) ?_
  simp -dsimp (decide := true) (maxSteps := 1000000) (disch := first | omega | simp (decide := true) only [decp2b0]) only [decp2b1, ↓brun_b, envOf, reduceIte, Nat.reduceEqDiff, Nat.reduceAdd, Nat.reduceSub, Nat.reduceMul, Nat.reduceBEq, Nat.reduceLeDiff, Nat.reduceLT, Int.reduceToNat, rho]
  refine SemOps.callw [2] cal.f153 (hc) rfl rfl rfl (by simp -dsimp (decide := true) (maxSteps := 1000000) (disch := first | omega | simp (decide := true) only [decp2b0]) only [decp2b2, ↓brun_b, envOf, reduceIte, Nat.reduceEqDiff, Nat.reduceAdd, Nat.reduceSub, Nat.reduceMul, Nat.reduceBEq, Nat.reduceLeDiff, Nat.reduceLT, Int.reduceToNat, rho, frz1, ↓reduceIte]) rfl (by simp -dsimp (decide := true) (maxSteps := 1000000) (disch := first | omega | simp (decide := true) only [decp2b0]) only [decp2b2, ↓brun_b, envOf, reduceIte, Nat.reduceEqDiff, Nat.reduceAdd, Nat.reduceSub, Nat.reduceMul, Nat.reduceBEq, Nat.reduceLeDiff, Nat.reduceLT, Int.reduceToNat, rho, frz1, ↓reduceIte]) (by simp -dsimp (decide := true) (maxSteps := 1000000) (disch := first | omega | simp (decide := true) only [decp2b0]) only [decp2c1, ↓brun_b, envOf, reduceIte, Nat.reduceEqDiff, Nat.reduceAdd, Nat.reduceSub, Nat.reduceMul, Nat.reduceBEq, Nat.reduceLeDiff, Nat.reduceLT, Int.reduceToNat]) ?_
  refine SemOps.go (k := 1000) ?_
  simp -dsimp (decide := true) (maxSteps := 1000000) (disch := first | omega | simp (decide := true) only [decp2b0]) only [decp2b1, ↓brun_b, envOf, reduceIte, Nat.reduceEqDiff, Nat.reduceAdd, Nat.reduceSub, Nat.reduceMul, Nat.reduceBEq, Nat.reduceLeDiff, Nat.reduceLT, Int.reduceToNat, rho, hmin, hmin2, d1, d2, d3, d4, d5, d6, d7, d8, d9, d10, d11, d12]
  have hB : rbody (min k 99) b q = .error 2 := by
    have : rbody (min k 99) = Rd.fail 2 := by
      generalize hm : min k 99 = m
      have : ¬ (1 ≤ m ∧ m ≤ 12) := by omega
      unfold rbody
      split <;> first | omega | rfl
    rw [this]
    rfl
  exact dec_ret rfl rfl (FC.c_length _) rfl rfl rfl zFrm zF_ent (decode_err h0 hB)
end Go.Proofs
namespace Go.Proofs
open Go Go.SL
set_option maxRecDepth 100000
end Go.Proofs
namespace Go.Proofs
open Go Go.SL
set_option maxRecDepth 100000
end Go.Proofs
namespace Go.Proofs
open Go Go.SL
set_option maxRecDepth 100000
end Go.Proofs
namespace Go.Proofs
open Go Go.SL
set_option maxRecDepth 100000
end Go.Proofs
namespace Go.Proofs
open Go Go.SL
set_option maxRecDepth 100000
set_option maxHeartbeats 4000000 in
theorem dec_5 (b : List UInt8) (hb : b.length ≤ 140737488355328) (q : Int) (h0 : rnum b 0 = .ok (5, q)) : SCall Try.prog 117 [bsl b] [] (DR b) := by
  have hp0 : I64 0 := by unfold I64; omega
  have hq : I64 q := rnum_at.i64 hb h0
  have hc := (num_takes b 0 hb hp0).1 _ _ h0
  refine SCall.mkDefer (fn := Try.f117) (by kernel_rfl) rfl (Nat.le_of_ble_eq_true (by kernel_rfl)) ?_
  refine Sem.go (k := 1000) ?_
  simp -dsimp (decide := true) (maxSteps := 1000000) (disch := first | omega | simp (decide := true) only [decp2b0]) only [decp2b1, ↓brun_b, envOf, reduceIte, Nat.reduceEqDiff, Nat.reduceAdd, Nat.reduceSub, Nat.reduceMul, Nat.reduceBEq, Nat.reduceLeDiff, Nat.reduceLT, Int.reduceToNat, rho]
  refine ⟨_, _, _, _, _, _, rfl, rfl, rfl, rfl, rfl, rfl, Nat.lt_of_sub_pos (by decide : 0 < 206 - 5), ?_, cal.f152, ?_⟩
  · simp -dsimp (decide := true) (maxSteps := 1000000) (disch := first | omega | simp (decide := true) only [decp2b0]) only [decp2b1, ↓brun_b, envOf, reduceIte, Nat.reduceEqDiff, Nat.reduceAdd, Nat.reduceSub, Nat.reduceMul, Nat.reduceBEq, Nat.reduceLeDiff, Nat.reduceLT, Int.reduceToNat, rho]
  refine Sem.go (k := 1000) ?_
  simp -dsimp (decide := true) (maxSteps := 1000000) (disch := first | omega | simp (decide := true) only [decp2b0]) only [decp2b1, ↓brun_b, envOf, reduceIte, Nat.reduceEqDiff, Nat.reduceAdd, Nat.reduceSub, Nat.reduceMul, Nat.reduceBEq, Nat.reduceLeDiff, Nat.reduceLT, Int.reduceToNat, rho]
  refine SemOps.callw [2] cal.f153 (hc) rfl rfl rfl (by simp -dsimp (decide := true) (maxSteps := 1000000) (disch := first | omega | simp (decide := true) only [decp2b0]) only [decp2b2, ↓brun_b, envOf, reduceIte, Nat.reduceEqDiff, Nat.reduceAdd, Nat.reduceSub, Nat.reduceMul, Nat.reduceBEq, Nat.reduceLeDiff, Nat.reduceLT, Int.reduceToNat, rho, frz1, ↓reduceIte]) rfl (by simp -dsimp (decide := true) (maxSteps := 1000000) (disch := first | omega | simp (decide := true) only [decp2b0]) only [decp2b2, ↓brun_b, envOf, reduceIte, Nat.reduceEqDiff, Nat.reduceAdd, Nat.reduceSub, Nat.reduceMul, Nat.reduceBEq, Nat.reduceLeDiff, Nat.reduceLT, Int.reduceToNat, rho, frz1, ↓reduceIte]) (by simp -dsimp (decide := true) (maxSteps := 1000000) (disch := first | omega | simp (decide := true) only [decp2b0]) only [decp2c1, ↓brun_b, envOf, reduceIte, Nat.reduceEqDiff, Nat.reduceAdd, Nat.reduceSub, Nat.reduceMul, Nat.reduceBEq, Nat.reduceLeDiff, Nat.reduceLT, Int.reduceToNat]) ?_
  refine SemOps.go (k := 1000) ?_
  simp -dsimp (decide := true) (maxSteps := 1000000) (disch := first | omega | simp (decide := true) only [decp2b0]) only [decp2b1, ↓brun_b, envOf, reduceIte, Nat.reduceEqDiff, Nat.reduceAdd, Nat.reduceSub, Nat.reduceMul, Nat.reduceBEq, Nat.reduceLeDiff, Nat.reduceLT, Int.reduceToNat, rho]
  obtain ⟨n1, n2⟩ := path_takes b q hb hq
  rcases g1 : rpath b q with e | ⟨⟨x1a, x1b⟩, q1⟩
  · have hc := n2 _ g1
    refine SemOps.callPanL [2] cal.f157 (hc) (fun _ => rfl) rfl rfl rfl (by simp -dsimp (decide := true) (maxSteps := 1000000) (disch := first | omega | simp (decide := true) only [decp2b0]) only [decp2b2, ↓brun_b, envOf, reduceIte, Nat.reduceEqDiff, Nat.reduceAdd, Nat.reduceSub, Nat.reduceMul, Nat.reduceBEq, Nat.reduceLeDiff, Nat.reduceLT, Int.reduceToNat, rho, frz1, ↓reduceIte]) rfl (by simp -dsimp (decide := true) (maxSteps := 1000000) (disch := first | omega | simp (decide := true) only [decp2b0]) only [decp2b2, ↓brun_b, envOf, reduceIte, Nat.reduceEqDiff, Nat.reduceAdd, Nat.reduceSub, Nat.reduceMul, Nat.reduceBEq, Nat.reduceLeDiff, Nat.reduceLT, Int.reduceToNat, rho, frz1, ↓reduceIte]) (by simp -dsimp (decide := true) (maxSteps := 1000000) (disch := first | omega | simp (decide := true) only [decp2b0]) only [decp2c1, ↓brun_b, envOf, reduceIte, Nat.reduceEqDiff, Nat.reduceAdd, Nat.reduceSub, Nat.reduceMul, Nat.reduceBEq, Nat.reduceLeDiff, Nat.reduceLT, Int.reduceToNat]) ?_
    exact dec_panL (by decide) rfl rfl (FC.c_length _) rfl rfl rfl (decode_err h0 (by show rbody 5 b q = _; simp only [rbody, Rd.map, Rd.both, g1]))
  have hc := n1 _ _ g1
  refine SemOps.callw [2] cal.f157 (hc) rfl rfl rfl (by simp -dsimp (decide := true) (maxSteps := 1000000) (disch := first | omega | simp (decide := true) only [decp2b0]) only [decp2b2, ↓brun_b, envOf, reduceIte, Nat.reduceEqDiff, Nat.reduceAdd, Nat.reduceSub, Nat.reduceMul, Nat.reduceBEq, Nat.reduceLeDiff, Nat.reduceLT, Int.reduceToNat, rho, frz1, ↓reduceIte]) rfl (by simp -dsimp (decide := true) (maxSteps := 1000000) (disch := first | omega | simp (decide := true) only [decp2b0]) only [decp2b2, ↓brun_b, envOf, reduceIte, Nat.reduceEqDiff, Nat.reduceAdd, Nat.reduceSub, Nat.reduceMul, Nat.reduceBEq, Nat.reduceLeDiff, Nat.reduceLT, Int.reduceToNat, rho, frz1, ↓reduceIte]) (by simp -dsimp (decide := true) (maxSteps := 1000000) (disch := first | omega | simp (decide := true) only [decp2b0]) only [decp2c1, ↓brun_b, envOf, reduceIte, Nat.reduceEqDiff, Nat.reduceAdd, Nat.reduceSub, Nat.reduceMul, Nat.reduceBEq, Nat.reduceLeDiff, Nat.reduceLT, Int.reduceToNat]) ?_
  refine SemOps.go (k := 1000) ?_
  have hB : rbody (min 5 99) b q = .ok (fr5 (x1a, x1b), q1) := by show rbody 5 b q = _; simp only [rbody, Rd.map, Rd.both, g1]
  have hD := decode_ok h0 hB
  by_cases hlt : q1 < (b.length : Int)
  · have hd : decide (q1 < (b.length : Int)) = true := decide_eq_true hlt
    simp -dsimp (decide := true) (maxSteps := 1000000) (disch := first | omega | simp (decide := true) only [decp2b0]) only [decp2b1, ↓brun_b, envOf, reduceIte, Nat.reduceEqDiff, Nat.reduceAdd, Nat.reduceSub, Nat.reduceMul, Nat.reduceBEq, Nat.reduceLeDiff, Nat.reduceLT, Int.reduceToNat, rho, hd]
    exact dec_ret rfl rfl (FC.c_length _) rfl rfl rfl zFrm zF_ent (by rw [hD, if_pos hlt])
  · have hd : decide (q1 < (b.length : Int)) = false := decide_eq_false hlt
    simp -dsimp (decide := true) (maxSteps := 1000000) (disch := first | omega | simp (decide := true) only [decp2b0]) only [decp2b1, ↓brun_b, envOf, reduceIte, Nat.reduceEqDiff, Nat.reduceAdd, Nat.reduceSub, Nat.reduceMul, Nat.reduceBEq, Nat.reduceLeDiff, Nat.reduceLT, Int.reduceToNat, rho, hd]
    refine dec_ret rfl rfl (FC.c_length _) rfl rfl rfl _ ?_ (by rw [hD, if_neg hlt])
    unfold fr5 kF zFrm Frm.fc zF
    rw [FC.ent]
    (repeat' apply And.intro) <;> first | exact Ent.self (flat_v _) | exact ent_nil _ | exact Ent.self (bsl_flat _) | exact Ent.self (lsl_flat _)
end Go.Proofs
namespace Go.Proofs
open Go Go.SL
set_option maxRecDepth 100000
end Go.Proofs
namespace Go.Proofs
open Go Go.SL
set_option maxRecDepth 100000
end Go.Proofs
namespace Go.Proofs
open Go Go.SL
set_option maxRecDepth 100000
end Go.Proofs
namespace Go.Proofs
open Go Go.SL
set_option maxRecDepth 100000
end Go.Proofs
namespace Go.Proofs
open Go Go.SL
set_option maxRecDepth 100000
end Go.Proofs
namespace Go.Proofs
open Go Go.SL
set_option maxRecDepth 100000
end Go.Proofs
namespace Go.Proofs
open Go Go.SL
set_option maxRecDepth 100000
theorem frmc_flat (F : Frm) : SV.flatL F.fc.c = true := by unfold Frm.fc; exact frm_flat ..
end Go.Proofs
