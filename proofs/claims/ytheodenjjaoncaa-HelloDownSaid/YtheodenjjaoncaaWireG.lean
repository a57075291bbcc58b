/- The document's reading of numbers and texts (annuletref03), which is the code's. -/
import Derived.Test.YtheodenjjaoncaaWireF
set_option linter.unusedVariables false
set_option linter.unusedSimpArgs false
namespace Go.SL
open Go
theorem getD_drop (l : List UInt8) (a i : Nat) : (l.drop a).getD i 0 = l.getD (a + i) 0 := by
  simp [List.getD_eq_getElem?_getD, List.getElem?_drop]
theorem mul256_u64 (h : Nat) (hh : h < 256 ^ 7) : IntKind.u64.wrap ((h : Int) * 256) = ((h * 256 : Nat) : Int) := by
  have h5 : (256 : Nat) ^ 7 = 72057594037927936 := by decide
  rw [wrap_u64 _ (by omega)]
  omega
end Go.SL
namespace Go.Proofs
open Go Go.SL
set_option maxRecDepth 100000
theorem refNum_calls (l : List UInt8) (p : Int) (hl : l.length < 4611686018427387904) (hp : -9223372036854775808 ≤ p ∧ p < 9223372036854775808) : Pure Try.prog 67 [bsl l, .v (.int .i64 p)] (nres (getNum l p)) := by
  have hg : getNum l p = getNum l p := rfl
  conv at hg => rhs; unfold getNum
  refine SCall.mk (fn := Try.f67) (by kernel_rfl) rfl (Nat.le_of_ble_eq_true (by kernel_rfl)) ?_
  refine Sem.go (k := 1000) ?_
  simp -dsimp (decide := true) (maxSteps := 1000000) (disch := first | omega | simp (decide := true) only [bdset_a, nres.flat, tres.flat, urows.flat, urows_length, brow_len, urow_len, brow_flat]) only [brun_a, ↓brun_b, envOf, reduceIte, Nat.reduceEqDiff, Nat.reduceAdd, Nat.reduceSub, Nat.reduceMul, Nat.reduceBEq, Nat.reduceLeDiff, Nat.reduceLT, beq_self_eq_true, cond_true, cond_false, Int.reduceToNat, tab.u3, tab.s3, tab.a3, tab.u5, tab.s5, tab.a5, tab.u35, tab.s35, tab.a35, tab.u36, tab.s36, tab.a36, brow_len, brow_cell, brows_at, urows_length, urows_at, urow_cell, urow_len]
  refine SIf.split (fun h1 => ?_) (fun h1 => ?_)
  · simp -dsimp (decide := true) (maxSteps := 1000000) (disch := first | omega | simp (decide := true) only [bdset_a, nres.flat, tres.flat, urows.flat, urows_length, brow_len, urow_len, brow_flat]) only [brun_a, ↓brun_b, envOf, reduceIte, Nat.reduceEqDiff, Nat.reduceAdd, Nat.reduceSub, Nat.reduceMul, Nat.reduceBEq, Nat.reduceLeDiff, Nat.reduceLT, beq_self_eq_true, cond_true, cond_false, Int.reduceToNat, tab.u3, tab.s3, tab.a3, tab.u5, tab.s5, tab.a5, tab.u35, tab.s35, tab.a35, tab.u36, tab.s36, tab.a36, brow_len, brow_cell, brows_at, urows_length, urows_at, urow_cell, urow_len, h1]
    simp only [decide_eq_true_eq] at h1
    rw [if_pos (.inl h1)] at hg
    rw [hg]
    refine SQ.answer (rs := [.tmp 4, .tmp 5, .tmp 6]) rfl rfl ?_
    simp -dsimp (decide := true) (maxSteps := 1000000) (disch := first | omega | simp (decide := true) only [bdset_a, nres.flat, tres.flat, urows.flat, urows_length, brow_len, urow_len, brow_flat]) only [brun_a, ↓brun_b, envOf, reduceIte, Nat.reduceEqDiff, Nat.reduceAdd, Nat.reduceSub, Nat.reduceMul, Nat.reduceBEq, Nat.reduceLeDiff, Nat.reduceLT, beq_self_eq_true, cond_true, cond_false, Int.reduceToNat, tab.u3, tab.s3, tab.a3, tab.u5, tab.s5, tab.a5, tab.u35, tab.s35, tab.a35, tab.u36, tab.s36, tab.a36, nres, bwk_a, frz1, eq_self, implies_true, rho, ↓reduceIte, forall_const]
  · simp -dsimp (decide := true) (maxSteps := 1000000) (disch := first | omega | simp (decide := true) only [bdset_a, nres.flat, tres.flat, urows.flat, urows_length, brow_len, urow_len, brow_flat]) only [brun_a, ↓brun_b, envOf, reduceIte, Nat.reduceEqDiff, Nat.reduceAdd, Nat.reduceSub, Nat.reduceMul, Nat.reduceBEq, Nat.reduceLeDiff, Nat.reduceLT, beq_self_eq_true, cond_true, cond_false, Int.reduceToNat, tab.u3, tab.s3, tab.a3, tab.u5, tab.s5, tab.a5, tab.u35, tab.s35, tab.a35, tab.u36, tab.s36, tab.a36, brow_len, brow_cell, brows_at, urows_length, urows_at, urow_cell, urow_len, h1]
    simp only [decide_eq_false_iff_not] at h1
    refine SCond.split (fun h2 => ?_) (fun h2 => ?_)
    · simp -dsimp (decide := true) (maxSteps := 1000000) (disch := first | omega | simp (decide := true) only [bdset_a, nres.flat, tres.flat, urows.flat, urows_length, brow_len, urow_len, brow_flat]) only [brun_a, ↓brun_b, envOf, reduceIte, Nat.reduceEqDiff, Nat.reduceAdd, Nat.reduceSub, Nat.reduceMul, Nat.reduceBEq, Nat.reduceLeDiff, Nat.reduceLT, beq_self_eq_true, cond_true, cond_false, Int.reduceToNat, tab.u3, tab.s3, tab.a3, tab.u5, tab.s5, tab.a5, tab.u35, tab.s35, tab.a35, tab.u36, tab.s36, tab.a36, brow_len, brow_cell, brows_at, urows_length, urows_at, urow_cell, urow_len]
      simp only [decide_eq_true_eq] at h2
      rw [if_pos (.inr (by omega))] at hg
      rw [hg]
      refine SQ.answer (rs := [.tmp 4, .tmp 5, .tmp 6]) rfl rfl ?_
      simp -dsimp (decide := true) (maxSteps := 1000000) (disch := first | omega | simp (decide := true) only [bdset_a, nres.flat, tres.flat, urows.flat, urows_length, brow_len, urow_len, brow_flat]) only [brun_a, ↓brun_b, envOf, reduceIte, Nat.reduceEqDiff, Nat.reduceAdd, Nat.reduceSub, Nat.reduceMul, Nat.reduceBEq, Nat.reduceLeDiff, Nat.reduceLT, beq_self_eq_true, cond_true, cond_false, Int.reduceToNat, tab.u3, tab.s3, tab.a3, tab.u5, tab.s5, tab.a5, tab.u35, tab.s35, tab.a35, tab.u36, tab.s36, tab.a36, nres, bwk_a, frz1, eq_self, implies_true, rho, ↓reduceIte, forall_const]
    · simp only [decide_eq_false_iff_not] at h2
      rw [if_neg (by omega)] at hg
      obtain ⟨a, rfl⟩ : ∃ a : Nat, p = a := ⟨p.toNat, by omega⟩
      have ha : a ≤ l.length := by omega
      simp only [Int.toNat_natCast] at hg
      have hdl : (l.drop a).length = l.length - a := List.length_drop
      simp -dsimp (decide := true) (maxSteps := 1000000) (disch := first | omega | simp (decide := true) only [bdset_a, nres.flat, tres.flat, urows.flat, urows_length, brow_len, urow_len, brow_flat]) only [brun_a, ↓brun_b, envOf, reduceIte, Nat.reduceEqDiff, Nat.reduceAdd, Nat.reduceSub, Nat.reduceMul, Nat.reduceBEq, Nat.reduceLeDiff, Nat.reduceLT, beq_self_eq_true, cond_true, cond_false, Int.reduceToNat, tab.u3, tab.s3, tab.a3, tab.u5, tab.s5, tab.a5, tab.u35, tab.s35, tab.a35, tab.u36, tab.s36, tab.a36, brow_len, brow_cell, brows_at, urows_length, urows_at, urow_cell, urow_len, List.length_drop]
      refine And.intro (by omega) ?_
      refine SCond.split (fun h3 => ?_) (fun h3 => ?_)
      · simp -dsimp (decide := true) (maxSteps := 1000000) (disch := first | omega | simp (decide := true) only [bdset_a, nres.flat, tres.flat, urows.flat, urows_length, brow_len, urow_len, brow_flat]) only [brun_a, ↓brun_b, envOf, reduceIte, Nat.reduceEqDiff, Nat.reduceAdd, Nat.reduceSub, Nat.reduceMul, Nat.reduceBEq, Nat.reduceLeDiff, Nat.reduceLT, beq_self_eq_true, cond_true, cond_false, Int.reduceToNat, tab.u3, tab.s3, tab.a3, tab.u5, tab.s5, tab.a5, tab.u35, tab.s35, tab.a35, tab.u36, tab.s36, tab.a36, brow_len, brow_cell, brows_at, urows_length, urows_at, urow_cell, urow_len]
        simp only [decide_eq_true_eq] at h3
        rw [if_pos (by omega)] at hg
        rw [hg]
        refine SQ.answer (rs := [.tmp 4, .tmp 5, .tmp 6]) rfl rfl ?_
        simp -dsimp (decide := true) (maxSteps := 1000000) (disch := first | omega | simp (decide := true) only [bdset_a, nres.flat, tres.flat, urows.flat, urows_length, brow_len, urow_len, brow_flat]) only [brun_a, ↓brun_b, envOf, reduceIte, Nat.reduceEqDiff, Nat.reduceAdd, Nat.reduceSub, Nat.reduceMul, Nat.reduceBEq, Nat.reduceLeDiff, Nat.reduceLT, beq_self_eq_true, cond_true, cond_false, Int.reduceToNat, tab.u3, tab.s3, tab.a3, tab.u5, tab.s5, tab.a5, tab.u35, tab.s35, tab.a35, tab.u36, tab.s36, tab.a36, nres, bwk_a, frz1, eq_self, implies_true, rho, ↓reduceIte, forall_const]
      · simp only [decide_eq_false_iff_not] at h3
        rw [if_neg (by omega)] at hg
        have hc := (l.getD a 0).toNat_lt
        have e0 : (l.drop a).getD 0 0 = l.getD a 0 := getD_drop l a 0
        generalize hcd : (l.getD a 0).toNat = c at *
        have hwc : IntKind.i64.wrap (c : Int) = (c : Int) := wrap_i64 _ (by omega)
        simp -dsimp (decide := true) (maxSteps := 1000000) (disch := first | omega | simp (decide := true) only [bdset_a, nres.flat, tres.flat, urows.flat, urows_length, brow_len, urow_len, brow_flat]) only [brun_a, ↓brun_b, envOf, reduceIte, Nat.reduceEqDiff, Nat.reduceAdd, Nat.reduceSub, Nat.reduceMul, Nat.reduceBEq, Nat.reduceLeDiff, Nat.reduceLT, beq_self_eq_true, cond_true, cond_false, Int.reduceToNat, tab.u3, tab.s3, tab.a3, tab.u5, tab.s5, tab.a5, tab.u35, tab.s35, tab.a35, tab.u36, tab.s36, tab.a36, brow_len, brow_cell, brows_at, urows_length, urows_at, urow_cell, urow_len, List.length_drop, e0, hcd, hwc]
        refine And.intro (by omega) ?_
        refine SCond.split (fun h4 => ?_) (fun h4 => ?_)
        · simp -dsimp (decide := true) (maxSteps := 1000000) (disch := first | omega | simp (decide := true) only [bdset_a, nres.flat, tres.flat, urows.flat, urows_length, brow_len, urow_len, brow_flat]) only [brun_a, ↓brun_b, envOf, reduceIte, Nat.reduceEqDiff, Nat.reduceAdd, Nat.reduceSub, Nat.reduceMul, Nat.reduceBEq, Nat.reduceLeDiff, Nat.reduceLT, beq_self_eq_true, cond_true, cond_false, Int.reduceToNat, tab.u3, tab.s3, tab.a3, tab.u5, tab.s5, tab.a5, tab.u35, tab.s35, tab.a35, tab.u36, tab.s36, tab.a36, brow_len, brow_cell, brows_at, urows_length, urows_at, urow_cell, urow_len]
          simp only [decide_eq_true_eq] at h4
          rw [if_pos (by omega)] at hg
          rw [hg]
          refine SQ.answer (rs := [.tmp 4, .tmp 5, .tmp 6]) rfl rfl ?_
          simp -dsimp (decide := true) (maxSteps := 1000000) (disch := first | omega | simp (decide := true) only [bdset_a, nres.flat, tres.flat, urows.flat, urows_length, brow_len, urow_len, brow_flat]) only [brun_a, ↓brun_b, envOf, reduceIte, Nat.reduceEqDiff, Nat.reduceAdd, Nat.reduceSub, Nat.reduceMul, Nat.reduceBEq, Nat.reduceLeDiff, Nat.reduceLT, beq_self_eq_true, cond_true, cond_false, Int.reduceToNat, tab.u3, tab.s3, tab.a3, tab.u5, tab.s5, tab.a5, tab.u35, tab.s35, tab.a35, tab.u36, tab.s36, tab.a36, nres, bwk_a, frz1, eq_self, implies_true, rho, ↓reduceIte, forall_const]
        · simp only [decide_eq_false_iff_not] at h4
          rw [if_neg (by omega)] at hg
          simp -dsimp (decide := true) (maxSteps := 1000000) (disch := first | omega | simp (decide := true) only [bdset_a, nres.flat, tres.flat, urows.flat, urows_length, brow_len, urow_len, brow_flat]) only [brun_a, ↓brun_b, envOf, reduceIte, Nat.reduceEqDiff, Nat.reduceAdd, Nat.reduceSub, Nat.reduceMul, Nat.reduceBEq, Nat.reduceLeDiff, Nat.reduceLT, beq_self_eq_true, cond_true, cond_false, Int.reduceToNat, tab.u3, tab.s3, tab.a3, tab.u5, tab.s5, tab.a5, tab.u35, tab.s35, tab.a35, tab.u36, tab.s36, tab.a36, brow_len, brow_cell, brows_at, urows_length, urows_at, urow_cell, urow_len, List.length_drop]
          refine SCond.split (fun h5 => ?_) (fun h5 => ?_)
          · simp -dsimp (decide := true) (maxSteps := 1000000) (disch := first | omega | simp (decide := true) only [bdset_a, nres.flat, tres.flat, urows.flat, urows_length, brow_len, urow_len, brow_flat]) only [brun_a, ↓brun_b, envOf, reduceIte, Nat.reduceEqDiff, Nat.reduceAdd, Nat.reduceSub, Nat.reduceMul, Nat.reduceBEq, Nat.reduceLeDiff, Nat.reduceLT, beq_self_eq_true, cond_true, cond_false, Int.reduceToNat, tab.u3, tab.s3, tab.a3, tab.u5, tab.s5, tab.a5, tab.u35, tab.s35, tab.a35, tab.u36, tab.s36, tab.a36, brow_len, brow_cell, brows_at, urows_length, urows_at, urow_cell, urow_len]
            simp only [decide_eq_true_eq] at h5
            rw [if_pos (by omega)] at hg
            rw [hg]
            refine SQ.answer (rs := [.tmp 4, .tmp 5, .tmp 6]) rfl rfl ?_
            simp -dsimp (decide := true) (maxSteps := 1000000) (disch := first | omega | simp (decide := true) only [bdset_a, nres.flat, tres.flat, urows.flat, urows_length, brow_len, urow_len, brow_flat]) only [brun_a, ↓brun_b, envOf, reduceIte, Nat.reduceEqDiff, Nat.reduceAdd, Nat.reduceSub, Nat.reduceMul, Nat.reduceBEq, Nat.reduceLeDiff, Nat.reduceLT, beq_self_eq_true, cond_true, cond_false, Int.reduceToNat, tab.u3, tab.s3, tab.a3, tab.u5, tab.s5, tab.a5, tab.u35, tab.s35, tab.a35, tab.u36, tab.s36, tab.a36, nres, bwk_a, frz1, eq_self, implies_true, rho, ↓reduceIte, forall_const]
          · simp only [decide_eq_false_iff_not] at h5
            rw [if_neg (by omega)] at hg
            simp -dsimp (decide := true) (maxSteps := 1000000) (disch := first | omega | simp (decide := true) only [bdset_a, nres.flat, tres.flat, urows.flat, urows_length, brow_len, urow_len, brow_flat]) only [brun_a, ↓brun_b, envOf, reduceIte, Nat.reduceEqDiff, Nat.reduceAdd, Nat.reduceSub, Nat.reduceMul, Nat.reduceBEq, Nat.reduceLeDiff, Nat.reduceLT, beq_self_eq_true, cond_true, cond_false, Int.reduceToNat, tab.u3, tab.s3, tab.a3, tab.u5, tab.s5, tab.a5, tab.u35, tab.s35, tab.a35, tab.u36, tab.s36, tab.a36, brow_len, brow_cell, brows_at, urows_length, urows_at, urow_cell, urow_len]
            have hm : ((l.drop (a + 1)).take c).length = c := by rw [List.length_take, List.length_drop]; omega
            have hgm : ∀ i, i < c → ((l.drop (a + 1)).take c).getD i 0 = l.getD (a + 1 + i) 0 := fun i hi => by
              simp [List.getD_eq_getElem?_getD, List.getElem?_drop, List.getElem?_take, hi]
            generalize (l.drop (a + 1)).take c = m at *
            refine Sem.loop (ι := {k : Nat // k ≤ c ∧ (0 < k → ¬ (0 < c ∧ (l.getD (a + 1) 0).toNat = 0))}) (fun k => ⟨61, 0, [(1, .v (.int .i64 (a : Int))), (7, bsl (l.drop a)), (8, .v (.int .i64 (c : Int))), (10, .v (.int .i64 ((k.1 + 1 : Nat) : Int))), (9, .v (.int .u64 (numB (m.take k.1) : Int)))], []⟩) (fun k => c - k.1) ⟨0, by omega, fun h => absurd h (by omega)⟩ [] ?_ ?_
            · (refine Wk.ofC ?_; simp -dsimp (decide := true) (maxSteps := 1000000) (disch := first | omega | simp (decide := true) only [bdset_a, nres.flat, tres.flat, urows.flat, urows_length, brow_len, urow_len, brow_flat]) only [brun_a, ↓brun_b, envOf, reduceIte, Nat.reduceEqDiff, Nat.reduceAdd, Nat.reduceSub, Nat.reduceMul, Nat.reduceBEq, Nat.reduceLeDiff, Nat.reduceLT, beq_self_eq_true, cond_true, cond_false, Int.reduceToNat, tab.u3, tab.s3, tab.a3, tab.u5, tab.s5, tab.a5, tab.u35, tab.s35, tab.a35, tab.u36, tab.s36, tab.a36, brow_len, brow_cell, brows_at, urows_length, urows_at, urow_cell, urow_len, List.take_zero, numB, List.foldl_nil, bwk_a, frz1, eq_self, implies_true, rho, ↓reduceIte, forall_const])
            · rintro ⟨k, hk, hk0⟩
              refine Sem.go (k := 1000) ?_
              simp -dsimp (decide := true) (maxSteps := 1000000) (disch := first | omega | simp (decide := true) only [bdset_a, nres.flat, tres.flat, urows.flat, urows_length, brow_len, urow_len, brow_flat]) only [brun_a, ↓brun_b, envOf, reduceIte, Nat.reduceEqDiff, Nat.reduceAdd, Nat.reduceSub, Nat.reduceMul, Nat.reduceBEq, Nat.reduceLeDiff, Nat.reduceLT, beq_self_eq_true, cond_true, cond_false, Int.reduceToNat, tab.u3, tab.s3, tab.a3, tab.u5, tab.s5, tab.a5, tab.u35, tab.s35, tab.a35, tab.u36, tab.s36, tab.a36, brow_len, brow_cell, brows_at, urows_length, urows_at, urow_cell, urow_len]
              refine SCond.split (fun h => ?_) (fun h => ?_)
              · simp only [decide_eq_true_eq] at h
                have hk' : k < m.length := by omega
                have hw5 : IntKind.i64.wrap (((k + 1 : Nat) : Int) + 1) = ((k + 1 + 1 : Nat) : Int) := by rw [wrap_i64 _ (by omega)]; rfl
                have h1 := numB_lt (m.take k)
                have h2 := pow256_le (m.take k).length 7 (by rw [List.length_take]; omega)
                have h3 := numB_take m k hk'
                have h4 := (m.getD k 0).toNat_lt
                have h5 : (256 : Nat) ^ 7 = 72057594037927936 := by decide
                have hmul := mul256_u64 (numB (m.take k)) (by omega)
                have e1 : (l.drop a).getD (k + 1) 0 = m.getD k 0 := by rw [getD_drop, hgm k (by omega)]; congr 1; omega
                have e2 : (l.drop a).getD 1 0 = l.getD (a + 1) 0 := getD_drop l a 1
                have hwx : IntKind.u64.wrap ((m.getD k 0).toNat : Int) = ((m.getD k 0).toNat : Int) := wrap_u64 _ (by omega)
                have hadd : IntKind.u64.wrap (((numB (m.take k) * 256 : Nat) : Int) + ((m.getD k 0).toNat : Int)) = ((numB (m.take k) * 256 + (m.getD k 0).toNat : Nat) : Int) := by rw [wrap_u64 _ (by omega)]; omega
                simp -dsimp (decide := true) (maxSteps := 1000000) (disch := first | omega | simp (decide := true) only [bdset_a, nres.flat, tres.flat, urows.flat, urows_length, brow_len, urow_len, brow_flat]) only [brun_a, ↓brun_b, envOf, reduceIte, Nat.reduceEqDiff, Nat.reduceAdd, Nat.reduceSub, Nat.reduceMul, Nat.reduceBEq, Nat.reduceLeDiff, Nat.reduceLT, beq_self_eq_true, cond_true, cond_false, Int.reduceToNat, tab.u3, tab.s3, tab.a3, tab.u5, tab.s5, tab.a5, tab.u35, tab.s35, tab.a35, tab.u36, tab.s36, tab.a36, brow_len, brow_cell, brows_at, urows_length, urows_at, urow_cell, urow_len]
                refine SIf.split (fun h6 => ?_) (fun h6 => ?_)
                · have h6' : k = 0 := by simp only [decide_eq_true_eq] at h6; omega
                  simp -dsimp (decide := true) (maxSteps := 1000000) (disch := first | omega | simp (decide := true) only [bdset_a, nres.flat, tres.flat, urows.flat, urows_length, brow_len, urow_len, brow_flat]) only [brun_a, ↓brun_b, envOf, reduceIte, Nat.reduceEqDiff, Nat.reduceAdd, Nat.reduceSub, Nat.reduceMul, Nat.reduceBEq, Nat.reduceLeDiff, Nat.reduceLT, beq_self_eq_true, cond_true, cond_false, Int.reduceToNat, tab.u3, tab.s3, tab.a3, tab.u5, tab.s5, tab.a5, tab.u35, tab.s35, tab.a35, tab.u36, tab.s36, tab.a36, brow_len, brow_cell, brows_at, urows_length, urows_at, urow_cell, urow_len, h6, e2]
                  refine And.intro (by omega) ?_
                  refine SCond.split (fun h7 => ?_) (fun h7 => ?_)
                  · simp -dsimp (decide := true) (maxSteps := 1000000) (disch := first | omega | simp (decide := true) only [bdset_a, nres.flat, tres.flat, urows.flat, urows_length, brow_len, urow_len, brow_flat]) only [brun_a, ↓brun_b, envOf, reduceIte, Nat.reduceEqDiff, Nat.reduceAdd, Nat.reduceSub, Nat.reduceMul, Nat.reduceBEq, Nat.reduceLeDiff, Nat.reduceLT, beq_self_eq_true, cond_true, cond_false, Int.reduceToNat, tab.u3, tab.s3, tab.a3, tab.u5, tab.s5, tab.a5, tab.u35, tab.s35, tab.a35, tab.u36, tab.s36, tab.a36, brow_len, brow_cell, brows_at, urows_length, urows_at, urow_cell, urow_len]
                    simp only [decide_eq_true_eq] at h7
                    rw [if_pos ⟨by omega, by omega⟩] at hg
                    rw [hg]
                    refine SQ.answer (rs := [.tmp 4, .tmp 5, .tmp 6]) rfl rfl ?_
                    simp -dsimp (decide := true) (maxSteps := 1000000) (disch := first | omega | simp (decide := true) only [bdset_a, nres.flat, tres.flat, urows.flat, urows_length, brow_len, urow_len, brow_flat]) only [brun_a, ↓brun_b, envOf, reduceIte, Nat.reduceEqDiff, Nat.reduceAdd, Nat.reduceSub, Nat.reduceMul, Nat.reduceBEq, Nat.reduceLeDiff, Nat.reduceLT, beq_self_eq_true, cond_true, cond_false, Int.reduceToNat, tab.u3, tab.s3, tab.a3, tab.u5, tab.s5, tab.a5, tab.u35, tab.s35, tab.a35, tab.u36, tab.s36, tab.a36, nres, bwk_a, frz1, eq_self, implies_true, rho, ↓reduceIte, forall_const]
                  · simp -dsimp (decide := true) (maxSteps := 1000000) (disch := first | omega | simp (decide := true) only [bdset_a, nres.flat, tres.flat, urows.flat, urows_length, brow_len, urow_len, brow_flat]) only [brun_a, ↓brun_b, envOf, reduceIte, Nat.reduceEqDiff, Nat.reduceAdd, Nat.reduceSub, Nat.reduceMul, Nat.reduceBEq, Nat.reduceLeDiff, Nat.reduceLT, beq_self_eq_true, cond_true, cond_false, Int.reduceToNat, tab.u3, tab.s3, tab.a3, tab.u5, tab.s5, tab.a5, tab.u35, tab.s35, tab.a35, tab.u36, tab.s36, tab.a36, brow_len, brow_cell, brows_at, urows_length, urows_at, urow_cell, urow_len, e1, hwx, hmul, hadd, hw5]
                    simp only [decide_eq_false_iff_not] at h7
                    refine And.intro (by omega) ⟨⟨k + 1, by omega, fun _ h8 => h7 (by omega)⟩, [], ?_, by show c - (k + 1) < c - k; omega⟩
                    (refine Wk.ofC ?_; simp -dsimp (decide := true) (maxSteps := 1000000) (disch := first | omega | simp (decide := true) only [bdset_a, nres.flat, tres.flat, urows.flat, urows_length, brow_len, urow_len, brow_flat]) only [brun_a, ↓brun_b, envOf, reduceIte, Nat.reduceEqDiff, Nat.reduceAdd, Nat.reduceSub, Nat.reduceMul, Nat.reduceBEq, Nat.reduceLeDiff, Nat.reduceLT, beq_self_eq_true, cond_true, cond_false, Int.reduceToNat, tab.u3, tab.s3, tab.a3, tab.u5, tab.s5, tab.a5, tab.u35, tab.s35, tab.a35, tab.u36, tab.s36, tab.a36, brow_len, brow_cell, brows_at, urows_length, urows_at, urow_cell, urow_len, h3, bwk_a, frz1, eq_self, implies_true, rho, ↓reduceIte, forall_const])
                · have h6' : ¬ k = 0 := by simp only [decide_eq_false_iff_not] at h6; omega
                  simp -dsimp (decide := true) (maxSteps := 1000000) (disch := first | omega | simp (decide := true) only [bdset_a, nres.flat, tres.flat, urows.flat, urows_length, brow_len, urow_len, brow_flat]) only [brun_a, ↓brun_b, envOf, reduceIte, Nat.reduceEqDiff, Nat.reduceAdd, Nat.reduceSub, Nat.reduceMul, Nat.reduceBEq, Nat.reduceLeDiff, Nat.reduceLT, beq_self_eq_true, cond_true, cond_false, Int.reduceToNat, tab.u3, tab.s3, tab.a3, tab.u5, tab.s5, tab.a5, tab.u35, tab.s35, tab.a35, tab.u36, tab.s36, tab.a36, brow_len, brow_cell, brows_at, urows_length, urows_at, urow_cell, urow_len, h6, e1, hwx, hmul, hadd, hw5]
                  refine And.intro (by omega) ⟨⟨k + 1, by omega, fun _ => hk0 (by omega)⟩, [], ?_, by show c - (k + 1) < c - k; omega⟩
                  (refine Wk.ofC ?_; simp -dsimp (decide := true) (maxSteps := 1000000) (disch := first | omega | simp (decide := true) only [bdset_a, nres.flat, tres.flat, urows.flat, urows_length, brow_len, urow_len, brow_flat]) only [brun_a, ↓brun_b, envOf, reduceIte, Nat.reduceEqDiff, Nat.reduceAdd, Nat.reduceSub, Nat.reduceMul, Nat.reduceBEq, Nat.reduceLeDiff, Nat.reduceLT, beq_self_eq_true, cond_true, cond_false, Int.reduceToNat, tab.u3, tab.s3, tab.a3, tab.u5, tab.s5, tab.a5, tab.u35, tab.s35, tab.a35, tab.u36, tab.s36, tab.a36, brow_len, brow_cell, brows_at, urows_length, urows_at, urow_cell, urow_len, h3, bwk_a, frz1, eq_self, implies_true, rho, ↓reduceIte, forall_const])
              · simp -dsimp (decide := true) (maxSteps := 1000000) (disch := first | omega | simp (decide := true) only [bdset_a, nres.flat, tres.flat, urows.flat, urows_length, brow_len, urow_len, brow_flat]) only [brun_a, ↓brun_b, envOf, reduceIte, Nat.reduceEqDiff, Nat.reduceAdd, Nat.reduceSub, Nat.reduceMul, Nat.reduceBEq, Nat.reduceLeDiff, Nat.reduceLT, beq_self_eq_true, cond_true, cond_false, Int.reduceToNat, tab.u3, tab.s3, tab.a3, tab.u5, tab.s5, tab.a5, tab.u35, tab.s35, tab.a35, tab.u36, tab.s36, tab.a36, brow_len, brow_cell, brows_at, urows_length, urows_at, urow_cell, urow_len]
                simp only [decide_eq_false_iff_not] at h
                obtain rfl : k = c := by omega
                have hmt : m.take k = m := List.take_of_length_le (by omega)
                rw [if_neg (fun h => hk0 h.1 h)] at hg
                have hw7 : IntKind.i64.wrap ((a : Int) + (k : Int)) = ((a + k : Nat) : Int) := by rw [wrap_i64 _ (by omega)]; rfl
                have hw8 : IntKind.i64.wrap (((a + k : Nat) : Int) + 1) = (a : Int) + 1 + k := by rw [wrap_i64 _ (by omega)]; omega
                simp -dsimp (decide := true) (maxSteps := 1000000) (disch := first | omega | simp (decide := true) only [bdset_a, nres.flat, tres.flat, urows.flat, urows_length, brow_len, urow_len, brow_flat]) only [brun_a, ↓brun_b, envOf, reduceIte, Nat.reduceEqDiff, Nat.reduceAdd, Nat.reduceSub, Nat.reduceMul, Nat.reduceBEq, Nat.reduceLeDiff, Nat.reduceLT, beq_self_eq_true, cond_true, cond_false, Int.reduceToNat, tab.u3, tab.s3, tab.a3, tab.u5, tab.s5, tab.a5, tab.u35, tab.s35, tab.a35, tab.u36, tab.s36, tab.a36, brow_len, brow_cell, brows_at, urows_length, urows_at, urow_cell, urow_len, hw7, hw8]
                rw [hg]
                refine SQ.answer (rs := [.tmp 4, .tmp 5, .tmp 6]) rfl rfl ?_
                simp -dsimp (decide := true) (maxSteps := 1000000) (disch := first | omega | simp (decide := true) only [bdset_a, nres.flat, tres.flat, urows.flat, urows_length, brow_len, urow_len, brow_flat]) only [brun_a, ↓brun_b, envOf, reduceIte, Nat.reduceEqDiff, Nat.reduceAdd, Nat.reduceSub, Nat.reduceMul, Nat.reduceBEq, Nat.reduceLeDiff, Nat.reduceLT, beq_self_eq_true, cond_true, cond_false, Int.reduceToNat, tab.u3, tab.s3, tab.a3, tab.u5, tab.s5, tab.a5, tab.u35, tab.s35, tab.a35, tab.u36, tab.s36, tab.a36, nres, hmt, bwk_a, frz1, eq_self, implies_true, rho, ↓reduceIte, forall_const]
theorem refText_calls (l : List UInt8) (p most : Int) (hl : l.length ≤ 140737488355328) (hp : -9223372036854775808 ≤ p ∧ p < 9223372036854775808) (hm : most < 9223372036854775808) : Pure Try.prog 68 [bsl l, .v (.int .i64 p), .v (.int .i64 most)] (tres (getText l p most)) := by
  have hg : getText l p most = getText l p most := rfl
  conv at hg => rhs; unfold getText
  have hok := getNum_ok l p
  refine SCall.mk (fn := Try.f68) (by kernel_rfl) rfl (Nat.le_of_ble_eq_true (by kernel_rfl)) ?_
  refine Sem.go (k := 1000) ?_
  simp -dsimp (decide := true) (maxSteps := 1000000) (disch := first | omega | simp (decide := true) only [bdset_a, nres.flat, tres.flat, urows.flat, urows_length, brow_len, urow_len, brow_flat]) only [brun_a, ↓brun_b, envOf, reduceIte, Nat.reduceEqDiff, Nat.reduceAdd, Nat.reduceSub, Nat.reduceMul, Nat.reduceBEq, Nat.reduceLeDiff, Nat.reduceLT, beq_self_eq_true, cond_true, cond_false, Int.reduceToNat, tab.u3, tab.s3, tab.a3, tab.u5, tab.s5, tab.a5, tab.u35, tab.s35, tab.a35, tab.u36, tab.s36, tab.a36, tab.u37, tab.s37, tab.a37, brow_len, brow_cell, brows_at, urows_length, urows_at, urow_cell, urow_len]
  refine SemOps.callq (k := 1000) cal.f67 (refNum_calls l p (by omega) hp) rfl rfl rfl rfl (by simp only [bflat_a, nres.flat, tres.flat, urows.flat, brow_flat]) (by simp only [bflat_a, nres.flat, tres.flat, urows.flat, brow_flat]) (by simp -dsimp (decide := true) (maxSteps := 1000000) (disch := first | omega | simp (decide := true) only [bdset_a, nres.flat, tres.flat, urows.flat, urows_length, brow_len, urow_len, brow_flat]) only [brun_a, ↓brun_b, envOf, reduceIte, Nat.reduceEqDiff, Nat.reduceAdd, Nat.reduceSub, Nat.reduceMul, Nat.reduceBEq, Nat.reduceLeDiff, Nat.reduceLT, beq_self_eq_true, cond_true, cond_false, Int.reduceToNat, tab.u3, tab.s3, tab.a3, tab.u5, tab.s5, tab.a5, tab.u35, tab.s35, tab.a35, tab.u36, tab.s36, tab.a36, tab.u37, tab.s37, tab.a37]) ?_
  generalize getNum l p = r at *
  obtain ⟨n, e, c⟩ := r
  simp only at hok hg
  simp -dsimp (decide := true) (maxSteps := 1000000) (disch := first | omega | simp (decide := true) only [bdset_a, nres.flat, tres.flat, urows.flat, urows_length, brow_len, urow_len, brow_flat]) only [brun_a, ↓brun_b, envOf, reduceIte, Nat.reduceEqDiff, Nat.reduceAdd, Nat.reduceSub, Nat.reduceMul, Nat.reduceBEq, Nat.reduceLeDiff, Nat.reduceLT, beq_self_eq_true, cond_true, cond_false, Int.reduceToNat, tab.u3, tab.s3, tab.a3, tab.u5, tab.s5, tab.a5, tab.u35, tab.s35, tab.a35, tab.u36, tab.s36, tab.a36, tab.u37, tab.s37, tab.a37, brow_len, brow_cell, brows_at, urows_length, urows_at, urow_cell, urow_len, nres]
  refine SCond.split (fun h => ?_) (fun h => ?_)
  · have hc : c ≠ 0 := by simpa using h
    rw [if_pos hc] at hg
    rw [hg]
    simp -dsimp (decide := true) (maxSteps := 1000000) (disch := first | omega | simp (decide := true) only [bdset_a, nres.flat, tres.flat, urows.flat, urows_length, brow_len, urow_len, brow_flat]) only [brun_a, ↓brun_b, envOf, reduceIte, Nat.reduceEqDiff, Nat.reduceAdd, Nat.reduceSub, Nat.reduceMul, Nat.reduceBEq, Nat.reduceLeDiff, Nat.reduceLT, beq_self_eq_true, cond_true, cond_false, Int.reduceToNat, tab.u3, tab.s3, tab.a3, tab.u5, tab.s5, tab.a5, tab.u35, tab.s35, tab.a35, tab.u36, tab.s36, tab.a36, tab.u37, tab.s37, tab.a37, brow_len, brow_cell, brows_at, urows_length, urows_at, urow_cell, urow_len]
    refine SQ.answer (rs := [.tmp 6, .tmp 7, .tmp 8]) rfl rfl ?_
    simp -dsimp (decide := true) (maxSteps := 1000000) (disch := first | omega | simp (decide := true) only [bdset_a, nres.flat, tres.flat, urows.flat, urows_length, brow_len, urow_len, brow_flat]) only [brun_a, ↓brun_b, envOf, reduceIte, Nat.reduceEqDiff, Nat.reduceAdd, Nat.reduceSub, Nat.reduceMul, Nat.reduceBEq, Nat.reduceLeDiff, Nat.reduceLT, beq_self_eq_true, cond_true, cond_false, Int.reduceToNat, tab.u3, tab.s3, tab.a3, tab.u5, tab.s5, tab.a5, tab.u35, tab.s35, tab.a35, tab.u36, tab.s36, tab.a36, tab.u37, tab.s37, tab.a37, tres, bsl, brows_nil, bwk_a, frz1, eq_self, implies_true, rho, ↓reduceIte, forall_const]
  · have hc : c = 0 := by simpa using h
    subst hc
    rw [if_neg (by simp)] at hg
    obtain ⟨k, rfl, hk, hn, hp0, hpk⟩ := hok rfl
    have hw1 : IntKind.i64.wrap ((l.length : Int) - (k : Int)) = ((l.length - k : Nat) : Int) := by rw [wrap_i64 _ (by omega)]; omega
    have hw2 : IntKind.u64.wrap ((l.length - k : Nat) : Int) = ((l.length - k : Nat) : Int) := wrap_u64 _ (by omega)
    simp -dsimp (decide := true) (maxSteps := 1000000) (disch := first | omega | simp (decide := true) only [bdset_a, nres.flat, tres.flat, urows.flat, urows_length, brow_len, urow_len, brow_flat]) only [brun_a, ↓brun_b, envOf, reduceIte, Nat.reduceEqDiff, Nat.reduceAdd, Nat.reduceSub, Nat.reduceMul, Nat.reduceBEq, Nat.reduceLeDiff, Nat.reduceLT, beq_self_eq_true, cond_true, cond_false, Int.reduceToNat, tab.u3, tab.s3, tab.a3, tab.u5, tab.s5, tab.a5, tab.u35, tab.s35, tab.a35, tab.u36, tab.s36, tab.a36, tab.u37, tab.s37, tab.a37, brow_len, brow_cell, brows_at, urows_length, urows_at, urow_cell, urow_len]
    refine SIf.split (fun h1 => ?_) (fun h1 => ?_)
    · have h1' : most < 0 := by simpa using h1
      rw [if_pos (.inl h1')] at hg
      rw [hg]
      simp -dsimp (decide := true) (maxSteps := 1000000) (disch := first | omega | simp (decide := true) only [bdset_a, nres.flat, tres.flat, urows.flat, urows_length, brow_len, urow_len, brow_flat]) only [brun_a, ↓brun_b, envOf, reduceIte, Nat.reduceEqDiff, Nat.reduceAdd, Nat.reduceSub, Nat.reduceMul, Nat.reduceBEq, Nat.reduceLeDiff, Nat.reduceLT, beq_self_eq_true, cond_true, cond_false, Int.reduceToNat, tab.u3, tab.s3, tab.a3, tab.u5, tab.s5, tab.a5, tab.u35, tab.s35, tab.a35, tab.u36, tab.s36, tab.a36, tab.u37, tab.s37, tab.a37, brow_len, brow_cell, brows_at, urows_length, urows_at, urow_cell, urow_len, h1]
      refine SQ.answer (rs := [.tmp 6, .tmp 7, .tmp 8]) rfl rfl ?_
      simp -dsimp (decide := true) (maxSteps := 1000000) (disch := first | omega | simp (decide := true) only [bdset_a, nres.flat, tres.flat, urows.flat, urows_length, brow_len, urow_len, brow_flat]) only [brun_a, ↓brun_b, envOf, reduceIte, Nat.reduceEqDiff, Nat.reduceAdd, Nat.reduceSub, Nat.reduceMul, Nat.reduceBEq, Nat.reduceLeDiff, Nat.reduceLT, beq_self_eq_true, cond_true, cond_false, Int.reduceToNat, tab.u3, tab.s3, tab.a3, tab.u5, tab.s5, tab.a5, tab.u35, tab.s35, tab.a35, tab.u36, tab.s36, tab.a36, tab.u37, tab.s37, tab.a37, tres, bsl, brows_nil, bwk_a, frz1, eq_self, implies_true, rho, ↓reduceIte, forall_const]
    · have h1' : ¬ most < 0 := by simpa using h1
      have hw3 : IntKind.u64.wrap most = most := wrap_u64 _ (by omega)
      simp -dsimp (decide := true) (maxSteps := 1000000) (disch := first | omega | simp (decide := true) only [bdset_a, nres.flat, tres.flat, urows.flat, urows_length, brow_len, urow_len, brow_flat]) only [brun_a, ↓brun_b, envOf, reduceIte, Nat.reduceEqDiff, Nat.reduceAdd, Nat.reduceSub, Nat.reduceMul, Nat.reduceBEq, Nat.reduceLeDiff, Nat.reduceLT, beq_self_eq_true, cond_true, cond_false, Int.reduceToNat, tab.u3, tab.s3, tab.a3, tab.u5, tab.s5, tab.a5, tab.u35, tab.s35, tab.a35, tab.u36, tab.s36, tab.a36, tab.u37, tab.s37, tab.a37, brow_len, brow_cell, brows_at, urows_length, urows_at, urow_cell, urow_len, h1, hw3]
      refine SCond.split (fun h2 => ?_) (fun h2 => ?_)
      · have h2' : most < n := by simpa using h2
        rw [if_pos (.inr h2')] at hg
        rw [hg]
        simp -dsimp (decide := true) (maxSteps := 1000000) (disch := first | omega | simp (decide := true) only [bdset_a, nres.flat, tres.flat, urows.flat, urows_length, brow_len, urow_len, brow_flat]) only [brun_a, ↓brun_b, envOf, reduceIte, Nat.reduceEqDiff, Nat.reduceAdd, Nat.reduceSub, Nat.reduceMul, Nat.reduceBEq, Nat.reduceLeDiff, Nat.reduceLT, beq_self_eq_true, cond_true, cond_false, Int.reduceToNat, tab.u3, tab.s3, tab.a3, tab.u5, tab.s5, tab.a5, tab.u35, tab.s35, tab.a35, tab.u36, tab.s36, tab.a36, tab.u37, tab.s37, tab.a37, brow_len, brow_cell, brows_at, urows_length, urows_at, urow_cell, urow_len]
        refine SQ.answer (rs := [.tmp 6, .tmp 7, .tmp 8]) rfl rfl ?_
        simp -dsimp (decide := true) (maxSteps := 1000000) (disch := first | omega | simp (decide := true) only [bdset_a, nres.flat, tres.flat, urows.flat, urows_length, brow_len, urow_len, brow_flat]) only [brun_a, ↓brun_b, envOf, reduceIte, Nat.reduceEqDiff, Nat.reduceAdd, Nat.reduceSub, Nat.reduceMul, Nat.reduceBEq, Nat.reduceLeDiff, Nat.reduceLT, beq_self_eq_true, cond_true, cond_false, Int.reduceToNat, tab.u3, tab.s3, tab.a3, tab.u5, tab.s5, tab.a5, tab.u35, tab.s35, tab.a35, tab.u36, tab.s36, tab.a36, tab.u37, tab.s37, tab.a37, tres, bsl, brows_nil, bwk_a, frz1, eq_self, implies_true, rho, ↓reduceIte, forall_const]
      · have h2' : ¬ most < n := by simpa using h2
        rw [if_neg (by omega)] at hg
        simp -dsimp (decide := true) (maxSteps := 1000000) (disch := first | omega | simp (decide := true) only [bdset_a, nres.flat, tres.flat, urows.flat, urows_length, brow_len, urow_len, brow_flat]) only [brun_a, ↓brun_b, envOf, reduceIte, Nat.reduceEqDiff, Nat.reduceAdd, Nat.reduceSub, Nat.reduceMul, Nat.reduceBEq, Nat.reduceLeDiff, Nat.reduceLT, beq_self_eq_true, cond_true, cond_false, Int.reduceToNat, tab.u3, tab.s3, tab.a3, tab.u5, tab.s5, tab.a5, tab.u35, tab.s35, tab.a35, tab.u36, tab.s36, tab.a36, tab.u37, tab.s37, tab.a37, brow_len, brow_cell, brows_at, urows_length, urows_at, urow_cell, urow_len, hw1, hw2]
        refine SCond.split (fun h3 => ?_) (fun h3 => ?_)
        · simp only [decide_eq_true_eq] at h3
          rw [if_pos (by omega)] at hg
          rw [hg]
          simp -dsimp (decide := true) (maxSteps := 1000000) (disch := first | omega | simp (decide := true) only [bdset_a, nres.flat, tres.flat, urows.flat, urows_length, brow_len, urow_len, brow_flat]) only [brun_a, ↓brun_b, envOf, reduceIte, Nat.reduceEqDiff, Nat.reduceAdd, Nat.reduceSub, Nat.reduceMul, Nat.reduceBEq, Nat.reduceLeDiff, Nat.reduceLT, beq_self_eq_true, cond_true, cond_false, Int.reduceToNat, tab.u3, tab.s3, tab.a3, tab.u5, tab.s5, tab.a5, tab.u35, tab.s35, tab.a35, tab.u36, tab.s36, tab.a36, tab.u37, tab.s37, tab.a37, brow_len, brow_cell, brows_at, urows_length, urows_at, urow_cell, urow_len]
          refine SQ.answer (rs := [.tmp 6, .tmp 7, .tmp 8]) rfl rfl ?_
          simp -dsimp (decide := true) (maxSteps := 1000000) (disch := first | omega | simp (decide := true) only [bdset_a, nres.flat, tres.flat, urows.flat, urows_length, brow_len, urow_len, brow_flat]) only [brun_a, ↓brun_b, envOf, reduceIte, Nat.reduceEqDiff, Nat.reduceAdd, Nat.reduceSub, Nat.reduceMul, Nat.reduceBEq, Nat.reduceLeDiff, Nat.reduceLT, beq_self_eq_true, cond_true, cond_false, Int.reduceToNat, tab.u3, tab.s3, tab.a3, tab.u5, tab.s5, tab.a5, tab.u35, tab.s35, tab.a35, tab.u36, tab.s36, tab.a36, tab.u37, tab.s37, tab.a37, tres, bsl, brows_nil, bwk_a, frz1, eq_self, implies_true, rho, ↓reduceIte, forall_const]
        · simp only [decide_eq_false_iff_not] at h3
          rw [if_neg (by omega)] at hg
          have hw4 : IntKind.i64.wrap (n : Int) = (n : Int) := wrap_i64 _ (by omega)
          have hw5 : IntKind.i64.wrap ((k : Int) + (n : Int)) = ((k + n : Nat) : Int) := by rw [wrap_i64 _ (by omega)]; rfl
          simp -dsimp (decide := true) (maxSteps := 1000000) (disch := first | omega | simp (decide := true) only [bdset_a, nres.flat, tres.flat, urows.flat, urows_length, brow_len, urow_len, brow_flat]) only [brun_a, ↓brun_b, envOf, reduceIte, Nat.reduceEqDiff, Nat.reduceAdd, Nat.reduceSub, Nat.reduceMul, Nat.reduceBEq, Nat.reduceLeDiff, Nat.reduceLT, beq_self_eq_true, cond_true, cond_false, Int.reduceToNat, tab.u3, tab.s3, tab.a3, tab.u5, tab.s5, tab.a5, tab.u35, tab.s35, tab.a35, tab.u36, tab.s36, tab.a36, tab.u37, tab.s37, tab.a37, brow_len, brow_cell, brows_at, urows_length, urows_at, urow_cell, urow_len, hw4, hw5, bs35_0, sapp1_sl el5]
          have hm : (l.take (k + n)).drop k = (l.drop k).take n := by rw [List.drop_take]; congr 1; omega
          rw [hm]
          have hlen : ((l.drop k).take n).length = n := by simp; omega
          rw [hg]
          simp only [Int.toNat_natCast]
          refine ⟨⟨by omega, by omega, by omega⟩, by omega, ?_⟩
          refine SQ.answer (rs := [.tmp 6, .tmp 7, .tmp 8]) rfl rfl ?_
          simp -dsimp (decide := true) (maxSteps := 1000000) (disch := first | omega | simp (decide := true) only [bdset_a, nres.flat, tres.flat, urows.flat, urows_length, brow_len, urow_len, brow_flat]) only [brun_a, ↓brun_b, envOf, reduceIte, Nat.reduceEqDiff, Nat.reduceAdd, Nat.reduceSub, Nat.reduceMul, Nat.reduceBEq, Nat.reduceLeDiff, Nat.reduceLT, beq_self_eq_true, cond_true, cond_false, Int.reduceToNat, tab.u3, tab.s3, tab.a3, tab.u5, tab.s5, tab.a5, tab.u35, tab.s35, tab.a35, tab.u36, tab.s36, tab.a36, tab.u37, tab.s37, tab.a37, tres, bsl, bwk_a, frz1, eq_self, implies_true, rho, ↓reduceIte, forall_const]
          refine And.intro (Ent_row rfl rfl (brows_length _).symm (by omega) fun i r hr => ent_rows hr) ?_
          rw [Int.natCast_add]
end Go.Proofs
