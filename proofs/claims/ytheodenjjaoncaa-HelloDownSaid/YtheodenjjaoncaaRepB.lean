/- Contracts of functions that the laws reach, on abstract values, and what they need: no conditions but those that each theorem states. -/
import Derived.Test.YtheodenjjaoncaaRepA
set_option linter.unusedVariables false
set_option linter.unusedSimpArgs false
namespace Go.Proofs
open Go Go.SL
set_option linter.unusedSimpArgs false
set_option linter.unusedVariables false

set_option maxHeartbeats 2000000 in
theorem wide_calls (a : I16) : Pure Try.prog 128 [.agg a.c] (.tup [.v (.int .u64 a.hi), .v (.int .u64 a.lo)]) := by
  refine SCall.mk (fn := Try.f128) (by kernel_rfl) rfl (Nat.le_of_ble_eq_true (by kernel_rfl)) ?_
  refine Sem.go (k := 1000) ?_
  simp -dsimp (decide := true) (maxSteps := 1000000) (disch := first | omega | simp (decide := true) only [bdset_a, Hd.one, Hd.c_length, I16.c_length, I16.one, I16.flat, Hd.flat]) only [brun_a, ↓brun_b, envOf, reduceIte, Nat.reduceEqDiff, Nat.reduceAdd, Nat.reduceSub, Nat.reduceMul, Nat.reduceBEq, Nat.reduceLeDiff, Nat.reduceLT, beq_self_eq_true, cond_true, cond_false, Int.reduceToNat, I16.c_length]
  refine Sem.loop (ι := {k : Nat // k ≤ 8}) (fun k => ⟨28, 0, [(4, .v (.int .u64 (num (a.l.take k.1)))), (5, .v (.int .u64 (num ((a.l.drop 8).take k.1)))), (6, .v (.int .i64 (k.1 : Int))), (1, .ptr 0 0 0)], [some (.row ⟨16, 1, true, 23, fun _ => a.c⟩)]⟩) (fun k => 8 - k.1) ⟨0, by decide⟩ [0] ?_ ?_
  · refine ⟨rfl, rfl, Nat.le_of_ble_eq_true rfl, by decide, rfl, ⟨rfl, rfl, rfl, rfl, trivial⟩, ⟨⟨rfl, rfl, rfl, fun h => h, fun e _ => ?_⟩, trivial⟩⟩
    exact I16.ent a
  · rintro ⟨k, hk⟩
    refine Sem.go (k := 1000) ?_
    simp -dsimp (decide := true) (maxSteps := 1000000) (disch := first | omega | simp (decide := true) only [bdset_a, Hd.one, Hd.c_length, I16.c_length, I16.one, I16.flat, Hd.flat]) only [brun_a, ↓brun_b, envOf, reduceIte, Nat.reduceEqDiff, Nat.reduceAdd, Nat.reduceSub, Nat.reduceMul, Nat.reduceBEq, Nat.reduceLeDiff, Nat.reduceLT, beq_self_eq_true, cond_true, cond_false, Int.reduceToNat]
    refine SCond.split (fun h => ?_) (fun h => ?_)
    · simp only [decide_eq_true_eq] at h
      have hk' : k < 8 := by omega
      have r1 := a.hi_rng k hk
      have r2 := a.lo_rng k hk
      have r3 := a.at_rng k
      have r4 := a.at_rng (8 + k)
      have r5 := pow256 k 7 (by omega)
      have hw1 : IntKind.u64.wrap (num (a.l.take k) * 256) = num (a.l.take k) * 256 := wrap_u64 _ (by omega)
      have hw2 : IntKind.u64.wrap (num ((a.l.drop 8).take k) * 256) = num ((a.l.drop 8).take k) * 256 := wrap_u64 _ (by omega)
      have hw3 : IntKind.u64.wrap (a.at k) = a.at k := wrap_u64 _ (by omega)
      have hw4 : IntKind.u64.wrap (a.at (8 + k)) = a.at (8 + k) := wrap_u64 _ (by omega)
      have hw5 : IntKind.i64.wrap (8 + (k : Int)) = ((8 + k : Nat) : Int) := by rw [wrap_i64 _ (by omega)]; rfl
      have hw6 : IntKind.i64.wrap ((k : Int) + 1) = ((k + 1 : Nat) : Int) := by rw [wrap_i64 _ (by omega)]; rfl
      have hw7 : IntKind.u64.wrap (num (a.l.take k) * 256 + a.at k) = num (a.l.take (k + 1)) := by rw [wrap_u64 _ (by omega), I16.hi_step a k (by omega)]
      have hw8 : IntKind.u64.wrap (num ((a.l.drop 8).take k) * 256 + a.at (8 + k)) = num ((a.l.drop 8).take (k + 1)) := by rw [wrap_u64 _ (by omega), I16.lo_step a k (by omega)]
      clear r1 r2 r3 r4 r5
      simp -dsimp (decide := true) (maxSteps := 1000000) (disch := first | omega | simp (decide := true) only [bdset_a, Hd.one, Hd.c_length, I16.c_length, I16.one, I16.flat, Hd.flat]) only [brun_a, ↓brun_b, envOf, reduceIte, Nat.reduceEqDiff, Nat.reduceAdd, Nat.reduceSub, Nat.reduceMul, Nat.reduceBEq, Nat.reduceLeDiff, Nat.reduceLT, beq_self_eq_true, cond_true, cond_false, Int.reduceToNat, tab.u2, tab.s2, tab.a2, tab.u3, tab.s3, tab.a3, tab.u5, tab.s5, tab.a5, tab.u23, tab.s23, tab.a23, tab.u24, tab.s24, tab.u26, tab.s26, tab.a26, tab.u28, tab.s28, tab.a28, tab.u30, tab.s30, tab.u36, tab.s36, tab.a36, tab.f26x0, tab.f26x1, tab.f26x2, tab.f28x0, tab.f28x1, tab.f28x2, hw1, hw2, hw3, hw4, hw5, hw6, hw7, hw8, I16.cell]
      refine ⟨⟨by omega, by omega⟩, ⟨by omega, by omega⟩, ⟨k + 1, by omega⟩, [0], ?_, by show 8 - (k + 1) < 8 - k; omega⟩
      refine ⟨rfl, rfl, Nat.le_of_ble_eq_true rfl, by decide, rfl, ⟨rfl, rfl, rfl, rfl, trivial⟩, ⟨⟨rfl, rfl, rfl, fun h => h, fun e _ => ?_⟩, trivial⟩⟩
      exact I16.ent a
    · simp -dsimp (decide := true) (maxSteps := 1000000) (disch := first | omega | simp (decide := true) only [bdset_a, Hd.one, Hd.c_length, I16.c_length, I16.one, I16.flat, Hd.flat]) only [brun_a, ↓brun_b, envOf, reduceIte, Nat.reduceEqDiff, Nat.reduceAdd, Nat.reduceSub, Nat.reduceMul, Nat.reduceBEq, Nat.reduceLeDiff, Nat.reduceLT, beq_self_eq_true, cond_true, cond_false, Int.reduceToNat, tab.u2, tab.s2, tab.a2, tab.u3, tab.s3, tab.a3, tab.u5, tab.s5, tab.a5, tab.u23, tab.s23, tab.a23, tab.u24, tab.s24, tab.u26, tab.s26, tab.a26, tab.u28, tab.s28, tab.a28, tab.u30, tab.s30, tab.u36, tab.s36, tab.a36, tab.f26x0, tab.f26x1, tab.f26x2, tab.f28x0, tab.f28x1, tab.f28x2]
      simp only [decide_eq_false_iff_not] at h
      obtain rfl : k = 8 := by omega
      refine SQ.ans rfl ⟨trivial, trivial, trivial⟩ rfl ?_ (fun _ => rfl)
      have h1 : (a.l.drop 8).take 8 = a.l.drop 8 := List.take_of_length_le (by simp [a.len])
      simp only [h1]
      rfl

def I16.less (a b : I16) : Bool := decide (a.hi < b.hi) || (decide (a.hi = b.hi) && decide (a.lo < b.lo))

theorem less_calls (a b : I16) : Pure Try.prog 41 [.agg a.c, .agg b.c] (.v (.bool (I16.less a b))) := by
  refine SCall.mk (fn := Try.f41) (by kernel_rfl) rfl (Nat.le_of_ble_eq_true (by kernel_rfl)) ?_
  refine Sem.go (k := 1000) ?_
  simp -dsimp (decide := true) (maxSteps := 1000000) (disch := first | omega | simp (decide := true) only [bdset_a, Hd.one, Hd.c_length, I16.c_length, I16.one, I16.flat, Hd.flat]) only [brun_a, ↓brun_b, envOf, reduceIte, Nat.reduceEqDiff, Nat.reduceAdd, Nat.reduceSub, Nat.reduceMul, Nat.reduceBEq, Nat.reduceLeDiff, Nat.reduceLT, beq_self_eq_true, cond_true, cond_false, Int.reduceToNat, tab.u2, tab.s2, tab.a2, tab.u3, tab.s3, tab.a3, tab.u5, tab.s5, tab.a5, tab.u23, tab.s23, tab.a23, tab.u24, tab.s24, tab.u26, tab.s26, tab.a26, tab.u28, tab.s28, tab.a28, tab.u30, tab.s30, tab.u36, tab.s36, tab.a36, tab.f26x0, tab.f26x1, tab.f26x2, tab.f28x0, tab.f28x1, tab.f28x2, I16.part, Hd.part_id, Hd.part_n, Hd.part_far, Hd.part, Hd.c_length, I16.c_length]
  refine SemOps.callp (k := 1000) rfl rfl rfl (fn := Try.f128) (by kernel_rfl) rfl (by kernel_rfl) (wide_calls a) rfl (fun ρ => by simp only [renL_cons, renL_nil, ren_agg, renI]) (fun _ => rfl) (by simp -dsimp (decide := true) (maxSteps := 1000000) (disch := first | omega | simp (decide := true) only [bdset_a, Hd.one, Hd.c_length, I16.c_length, I16.one, I16.flat, Hd.flat]) only [brun_a, ↓brun_b, envOf, reduceIte, Nat.reduceEqDiff, Nat.reduceAdd, Nat.reduceSub, Nat.reduceMul, Nat.reduceBEq, Nat.reduceLeDiff, Nat.reduceLT, beq_self_eq_true, cond_true, cond_false, Int.reduceToNat]) ?_
  simp -dsimp (decide := true) (maxSteps := 1000000) (disch := first | omega | simp (decide := true) only [bdset_a, Hd.one, Hd.c_length, I16.c_length, I16.one, I16.flat, Hd.flat]) only [brun_a, ↓brun_b, envOf, reduceIte, Nat.reduceEqDiff, Nat.reduceAdd, Nat.reduceSub, Nat.reduceMul, Nat.reduceBEq, Nat.reduceLeDiff, Nat.reduceLT, beq_self_eq_true, cond_true, cond_false, Int.reduceToNat, tab.u2, tab.s2, tab.a2, tab.u3, tab.s3, tab.a3, tab.u5, tab.s5, tab.a5, tab.u23, tab.s23, tab.a23, tab.u24, tab.s24, tab.u26, tab.s26, tab.a26, tab.u28, tab.s28, tab.a28, tab.u30, tab.s30, tab.u36, tab.s36, tab.a36, tab.f26x0, tab.f26x1, tab.f26x2, tab.f28x0, tab.f28x1, tab.f28x2, I16.part, Hd.part_id, Hd.part_n, Hd.part_far, Hd.part, Hd.c_length, I16.c_length]
  refine SemOps.callp (k := 1000) rfl rfl rfl (fn := Try.f128) (by kernel_rfl) rfl (by kernel_rfl) (wide_calls b) rfl (fun ρ => by simp only [renL_cons, renL_nil, ren_agg, renI]) (fun _ => rfl) (by simp -dsimp (decide := true) (maxSteps := 1000000) (disch := first | omega | simp (decide := true) only [bdset_a, Hd.one, Hd.c_length, I16.c_length, I16.one, I16.flat, Hd.flat]) only [brun_a, ↓brun_b, envOf, reduceIte, Nat.reduceEqDiff, Nat.reduceAdd, Nat.reduceSub, Nat.reduceMul, Nat.reduceBEq, Nat.reduceLeDiff, Nat.reduceLT, beq_self_eq_true, cond_true, cond_false, Int.reduceToNat]) ?_
  simp -dsimp (decide := true) (maxSteps := 1000000) (disch := first | omega | simp (decide := true) only [bdset_a, Hd.one, Hd.c_length, I16.c_length, I16.one, I16.flat, Hd.flat]) only [brun_a, ↓brun_b, envOf, reduceIte, Nat.reduceEqDiff, Nat.reduceAdd, Nat.reduceSub, Nat.reduceMul, Nat.reduceBEq, Nat.reduceLeDiff, Nat.reduceLT, beq_self_eq_true, cond_true, cond_false, Int.reduceToNat, tab.u2, tab.s2, tab.a2, tab.u3, tab.s3, tab.a3, tab.u5, tab.s5, tab.a5, tab.u23, tab.s23, tab.a23, tab.u24, tab.s24, tab.u26, tab.s26, tab.a26, tab.u28, tab.s28, tab.a28, tab.u30, tab.s30, tab.u36, tab.s36, tab.a36, tab.f26x0, tab.f26x1, tab.f26x2, tab.f28x0, tab.f28x1, tab.f28x2, I16.part, Hd.part_id, Hd.part_n, Hd.part_far, Hd.part, Hd.c_length, I16.c_length]
  refine SIf.split (fun h1 => ?_) (fun h1 => ?_)
  · simp -dsimp (decide := true) (maxSteps := 1000000) (disch := first | omega | simp (decide := true) only [bdset_a, Hd.one, Hd.c_length, I16.c_length, I16.one, I16.flat, Hd.flat]) only [brun_a, ↓brun_b, envOf, reduceIte, Nat.reduceEqDiff, Nat.reduceAdd, Nat.reduceSub, Nat.reduceMul, Nat.reduceBEq, Nat.reduceLeDiff, Nat.reduceLT, beq_self_eq_true, cond_true, cond_false, Int.reduceToNat, tab.u2, tab.s2, tab.a2, tab.u3, tab.s3, tab.a3, tab.u5, tab.s5, tab.a5, tab.u23, tab.s23, tab.a23, tab.u24, tab.s24, tab.u26, tab.s26, tab.a26, tab.u28, tab.s28, tab.a28, tab.u30, tab.s30, tab.u36, tab.s36, tab.a36, tab.f26x0, tab.f26x1, tab.f26x2, tab.f28x0, tab.f28x1, tab.f28x2, I16.part, Hd.part_id, Hd.part_n, Hd.part_far, Hd.part, Hd.c_length, I16.c_length, h1]
    refine SQ.ans rfl ⟨trivial, trivial⟩ rfl ?_ (fun _ => rfl)
    simp [lookup, I16.less, SV.ofResults, h1]
  · simp -dsimp (decide := true) (maxSteps := 1000000) (disch := first | omega | simp (decide := true) only [bdset_a, Hd.one, Hd.c_length, I16.c_length, I16.one, I16.flat, Hd.flat]) only [brun_a, ↓brun_b, envOf, reduceIte, Nat.reduceEqDiff, Nat.reduceAdd, Nat.reduceSub, Nat.reduceMul, Nat.reduceBEq, Nat.reduceLeDiff, Nat.reduceLT, beq_self_eq_true, cond_true, cond_false, Int.reduceToNat, tab.u2, tab.s2, tab.a2, tab.u3, tab.s3, tab.a3, tab.u5, tab.s5, tab.a5, tab.u23, tab.s23, tab.a23, tab.u24, tab.s24, tab.u26, tab.s26, tab.a26, tab.u28, tab.s28, tab.a28, tab.u30, tab.s30, tab.u36, tab.s36, tab.a36, tab.f26x0, tab.f26x1, tab.f26x2, tab.f28x0, tab.f28x1, tab.f28x2, I16.part, Hd.part_id, Hd.part_n, Hd.part_far, Hd.part, Hd.c_length, I16.c_length, h1]
    refine SIf.split (fun h2 => ?_) (fun h2 => ?_)
    · simp -dsimp (decide := true) (maxSteps := 1000000) (disch := first | omega | simp (decide := true) only [bdset_a, Hd.one, Hd.c_length, I16.c_length, I16.one, I16.flat, Hd.flat]) only [brun_a, ↓brun_b, envOf, reduceIte, Nat.reduceEqDiff, Nat.reduceAdd, Nat.reduceSub, Nat.reduceMul, Nat.reduceBEq, Nat.reduceLeDiff, Nat.reduceLT, beq_self_eq_true, cond_true, cond_false, Int.reduceToNat, tab.u2, tab.s2, tab.a2, tab.u3, tab.s3, tab.a3, tab.u5, tab.s5, tab.a5, tab.u23, tab.s23, tab.a23, tab.u24, tab.s24, tab.u26, tab.s26, tab.a26, tab.u28, tab.s28, tab.a28, tab.u30, tab.s30, tab.u36, tab.s36, tab.a36, tab.f26x0, tab.f26x1, tab.f26x2, tab.f28x0, tab.f28x1, tab.f28x2, I16.part, Hd.part_id, Hd.part_n, Hd.part_far, Hd.part, Hd.c_length, I16.c_length, h2]
      refine SQ.ans rfl ⟨trivial, trivial⟩ rfl ?_ (fun _ => rfl)
      simp [lookup, I16.less, SV.ofResults, h1, h2]
    · simp -dsimp (decide := true) (maxSteps := 1000000) (disch := first | omega | simp (decide := true) only [bdset_a, Hd.one, Hd.c_length, I16.c_length, I16.one, I16.flat, Hd.flat]) only [brun_a, ↓brun_b, envOf, reduceIte, Nat.reduceEqDiff, Nat.reduceAdd, Nat.reduceSub, Nat.reduceMul, Nat.reduceBEq, Nat.reduceLeDiff, Nat.reduceLT, beq_self_eq_true, cond_true, cond_false, Int.reduceToNat, tab.u2, tab.s2, tab.a2, tab.u3, tab.s3, tab.a3, tab.u5, tab.s5, tab.a5, tab.u23, tab.s23, tab.a23, tab.u24, tab.s24, tab.u26, tab.s26, tab.a26, tab.u28, tab.s28, tab.a28, tab.u30, tab.s30, tab.u36, tab.s36, tab.a36, tab.f26x0, tab.f26x1, tab.f26x2, tab.f28x0, tab.f28x1, tab.f28x2, I16.part, Hd.part_id, Hd.part_n, Hd.part_far, Hd.part, Hd.c_length, I16.c_length, h2]
      refine SQ.ans rfl ⟨trivial, trivial⟩ rfl ?_ (fun _ => rfl)
      simp [lookup, I16.less, SV.ofResults, h1, h2]
end Go.Proofs
