/- A window's beginning: window.New. -/
import Derived.Test.YtheodenjjaoncaaWinA
set_option linter.unusedVariables false
set_option linter.unusedSimpArgs false
namespace Go.Proofs
open Go Go.SL
set_option maxRecDepth 100000
theorem build197 (x : Int) : sBuild Try.prog 197 [(0, .v (.int .i64 x))] = some ⟨.agg [.v (.int .i64 x), .v (.slice none 0 0), .v (.int .i64 0)], {}, True⟩ := by
  rw [sBuild_eq, tab.z197, tab.l197]
  rfl
theorem new_win : SCall Try.prog 48 [] [] fun r L => r = .ret (.ptr 0 0 0) ∧ L = [some (.row ⟨3, 1, true, 197, fun _ => [.v (.int .i64 1), .v (.slice none 0 0), .v (.int .i64 0)]⟩)] := by
  refine SCall.mk (fn := Try.f48) (by kernel_rfl) rfl (Nat.le_of_ble_eq_true (by kernel_rfl)) ?_
  refine Sem.go (k := 1000) ?_
  simp -dsimp (decide := true) (maxSteps := 1000000) (disch := first | omega | simp (decide := true) only [bdset_a]) only [brun_a, ↓brun_b, envOf, reduceIte, Nat.reduceEqDiff, Nat.reduceAdd, Nat.reduceSub, Nat.reduceMul, Nat.reduceBEq, Nat.reduceLeDiff, Nat.reduceLT, beq_self_eq_true, cond_true, cond_false, Int.reduceToNat, tab.u2, tab.s2, tab.a2, tab.u5, tab.s5, tab.a5, tab.u35, tab.s35, tab.a35, tab.u44, tab.s44, tab.a44, tab.u197, tab.s197, tab.a197, tab.f197x0, tab.f197x1, tab.f197x2, build197]
  refine SQ.runL (rs := [.tmp 0]) [0] _ _ rfl (And.intro rfl rfl) (by decide) rfl rfl ?_ ?_
  · simp -dsimp (decide := true) (maxSteps := 1000000) (disch := first | omega | simp (decide := true) only [bdset_a]) only [brun_a, ↓brun_b, envOf, reduceIte, Nat.reduceEqDiff, Nat.reduceAdd, Nat.reduceSub, Nat.reduceMul, Nat.reduceBEq, Nat.reduceLeDiff, Nat.reduceLT, beq_self_eq_true, cond_true, cond_false, Int.reduceToNat, tab.u2, tab.s2, tab.a2, tab.u5, tab.s5, tab.a5, tab.u35, tab.s35, tab.a35, tab.u44, tab.s44, tab.a44, tab.u197, tab.s197, tab.a197, tab.f197x0, tab.f197x1, tab.f197x2, bwk_a, frz1, eq_self, implies_true, rho, ↓reduceIte, forall_const]
  · simp -dsimp (decide := true) (maxSteps := 1000000) (disch := first | omega | simp (decide := true) only [bdset_a]) only [brun_a, ↓brun_b, envOf, reduceIte, Nat.reduceEqDiff, Nat.reduceAdd, Nat.reduceSub, Nat.reduceMul, Nat.reduceBEq, Nat.reduceLeDiff, Nat.reduceLT, beq_self_eq_true, cond_true, cond_false, Int.reduceToNat, tab.u2, tab.s2, tab.a2, tab.u5, tab.s5, tab.a5, tab.u35, tab.s35, tab.a35, tab.u44, tab.s44, tab.a44, tab.u197, tab.s197, tab.a197, tab.f197x0, tab.f197x1, tab.f197x2, bwk_a, frz1, eq_self, implies_true, rho, ↓reduceIte, forall_const]
end Go.Proofs
