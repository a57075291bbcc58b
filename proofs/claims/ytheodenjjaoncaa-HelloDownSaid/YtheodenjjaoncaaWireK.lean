/- Numbers read out of a slice that another one owns: wire.GetNum. -/
import Derived.Test.YtheodenjjaoncaaWireJ
set_option linter.unusedVariables false
set_option linter.unusedSimpArgs false
namespace Go.Proofs
open Go Go.SL
set_option maxRecDepth 100000
theorem getNum_reads (l : List UInt8) (p : Int) (hl : l.length < 4611686018427387904) (hp : -9223372036854775808 ≤ p ∧ p < 9223372036854775808) : Reads Try.prog 42 [.slc 0 0 l.length, .v (.int .i64 p)] [some (.row ⟨1, l.length, false, 5, brow l⟩)] (nres (getNum l p)) := by
  have hg : getNum l p = getNum l p := rfl
  conv at hg => rhs; unfold getNum
  refine SCall.mk (fn := Try.f42) (by kernel_rfl) rfl (Nat.le_of_ble_eq_true (by kernel_rfl)) ?_
  refine Sem.go (k := 3) ?_
  simp -dsimp (decide := true) (maxSteps := 1000000) (disch := first | omega | simp (decide := true) only [bdset_a, urows.flat, urows_length, brow_len, urow_len, brow_flat]) only [brun_a, ↓brun_b, envOf, reduceIte, Nat.reduceEqDiff, Nat.reduceAdd, Nat.reduceSub, Nat.reduceMul, Nat.reduceBEq, Nat.reduceLeDiff, Nat.reduceLT, beq_self_eq_true, cond_true, cond_false, Int.reduceToNat, tab.u3, tab.s3, tab.a3, tab.u5, tab.s5, tab.a5, tab.u35, tab.s35, tab.a35, tab.u36, tab.s36, tab.a36, brow_len, brow_cell, brows_at, urows_length, urows_at, urow_cell, urow_len]
  refine Sem.cutJ [_] (fun s' => numOk l p ∧ ∃ l', Wk l' s' ⟨85, 1, [(0, .slc 0 0 l.length), (1, .v (.int .i64 p))], [some (.row ⟨1, l.length, false, 5, brow l⟩)]⟩) ?_ ?_
  · refine Sem.go (k := 1000) ?_
    simp -dsimp (decide := true) (maxSteps := 1000000) (disch := first | omega | simp (decide := true) only [bdset_a, urows.flat, urows_length, brow_len, urow_len, brow_flat]) only [brun_a, ↓brun_b, envOf, reduceIte, Nat.reduceEqDiff, Nat.reduceAdd, Nat.reduceSub, Nat.reduceMul, Nat.reduceBEq, Nat.reduceLeDiff, Nat.reduceLT, beq_self_eq_true, cond_true, cond_false, Int.reduceToNat, tab.u3, tab.s3, tab.a3, tab.u5, tab.s5, tab.a5, tab.u35, tab.s35, tab.a35, tab.u36, tab.s36, tab.a36, brow_len, brow_cell, brows_at, urows_length, urows_at, urow_cell, urow_len]
    refine SIf.split (fun h1 => ?_) (fun h1 => ?_)
    · simp -dsimp (decide := true) (maxSteps := 1000000) (disch := first | omega | simp (decide := true) only [bdset_a, urows.flat, urows_length, brow_len, urow_len, brow_flat]) only [brun_a, ↓brun_b, envOf, reduceIte, Nat.reduceEqDiff, Nat.reduceAdd, Nat.reduceSub, Nat.reduceMul, Nat.reduceBEq, Nat.reduceLeDiff, Nat.reduceLT, beq_self_eq_true, cond_true, cond_false, Int.reduceToNat, tab.u3, tab.s3, tab.a3, tab.u5, tab.s5, tab.a5, tab.u35, tab.s35, tab.a35, tab.u36, tab.s36, tab.a36, brow_len, brow_cell, brows_at, urows_length, urows_at, urow_cell, urow_len, h1]
      simp only [decide_eq_true_eq] at h1
      rw [if_pos (.inl h1)] at hg
      rw [hg]
      refine SQ.run (rs := [.tmp 4, .tmp 5, .tmp 6]) rfl rfl (fun ρ => SV.flat_ren ρ _ (nres.flat _)) ?_
      simp -dsimp (decide := true) (maxSteps := 1000000) (disch := first | omega | simp (decide := true) only [bdset_a, urows.flat, urows_length, brow_len, urow_len, brow_flat]) only [brun_a, ↓brun_b, envOf, reduceIte, Nat.reduceEqDiff, Nat.reduceAdd, Nat.reduceSub, Nat.reduceMul, Nat.reduceBEq, Nat.reduceLeDiff, Nat.reduceLT, beq_self_eq_true, cond_true, cond_false, Int.reduceToNat, tab.u3, tab.s3, tab.a3, tab.u5, tab.s5, tab.a5, tab.u35, tab.s35, tab.a35, tab.u36, tab.s36, tab.a36, nres, bwk_a, frz1, eq_self, implies_true, rho, ↓reduceIte, forall_const]
    · simp -dsimp (decide := true) (maxSteps := 1000000) (disch := first | omega | simp (decide := true) only [bdset_a, urows.flat, urows_length, brow_len, urow_len, brow_flat]) only [brun_a, ↓brun_b, envOf, reduceIte, Nat.reduceEqDiff, Nat.reduceAdd, Nat.reduceSub, Nat.reduceMul, Nat.reduceBEq, Nat.reduceLeDiff, Nat.reduceLT, beq_self_eq_true, cond_true, cond_false, Int.reduceToNat, tab.u3, tab.s3, tab.a3, tab.u5, tab.s5, tab.a5, tab.u35, tab.s35, tab.a35, tab.u36, tab.s36, tab.a36, brow_len, brow_cell, brows_at, urows_length, urows_at, urow_cell, urow_len, h1]
      simp only [decide_eq_false_iff_not] at h1
      refine SCond.split (fun h2 => ?_) (fun h2 => ?_)
      · simp -dsimp (decide := true) (maxSteps := 1000000) (disch := first | omega | simp (decide := true) only [bdset_a, urows.flat, urows_length, brow_len, urow_len, brow_flat]) only [brun_a, ↓brun_b, envOf, reduceIte, Nat.reduceEqDiff, Nat.reduceAdd, Nat.reduceSub, Nat.reduceMul, Nat.reduceBEq, Nat.reduceLeDiff, Nat.reduceLT, beq_self_eq_true, cond_true, cond_false, Int.reduceToNat, tab.u3, tab.s3, tab.a3, tab.u5, tab.s5, tab.a5, tab.u35, tab.s35, tab.a35, tab.u36, tab.s36, tab.a36, brow_len, brow_cell, brows_at, urows_length, urows_at, urow_cell, urow_len]
        simp only [decide_eq_true_eq] at h2
        rw [if_pos (.inr h2)] at hg
        rw [hg]
        refine SQ.run (rs := [.tmp 4, .tmp 5, .tmp 6]) rfl rfl (fun ρ => SV.flat_ren ρ _ (nres.flat _)) ?_
        simp -dsimp (decide := true) (maxSteps := 1000000) (disch := first | omega | simp (decide := true) only [bdset_a, urows.flat, urows_length, brow_len, urow_len, brow_flat]) only [brun_a, ↓brun_b, envOf, reduceIte, Nat.reduceEqDiff, Nat.reduceAdd, Nat.reduceSub, Nat.reduceMul, Nat.reduceBEq, Nat.reduceLeDiff, Nat.reduceLT, beq_self_eq_true, cond_true, cond_false, Int.reduceToNat, tab.u3, tab.s3, tab.a3, tab.u5, tab.s5, tab.a5, tab.u35, tab.s35, tab.a35, tab.u36, tab.s36, tab.a36, nres, bwk_a, frz1, eq_self, implies_true, rho, ↓reduceIte, forall_const]
      · simp only [decide_eq_false_iff_not] at h2
        rw [if_neg (by omega)] at hg
        simp -dsimp (decide := true) (maxSteps := 1000000) (disch := first | omega | simp (decide := true) only [bdset_a, urows.flat, urows_length, brow_len, urow_len, brow_flat]) only [brun_a, ↓brun_b, envOf, reduceIte, Nat.reduceEqDiff, Nat.reduceAdd, Nat.reduceSub, Nat.reduceMul, Nat.reduceBEq, Nat.reduceLeDiff, Nat.reduceLT, beq_self_eq_true, cond_true, cond_false, Int.reduceToNat, tab.u3, tab.s3, tab.a3, tab.u5, tab.s5, tab.a5, tab.u35, tab.s35, tab.a35, tab.u36, tab.s36, tab.a36, brow_len, brow_cell, brows_at, urows_length, urows_at, urow_cell, urow_len]
        refine SCond.split (fun h3 => ?_) (fun h3 => ?_)
        · simp -dsimp (decide := true) (maxSteps := 1000000) (disch := first | omega | simp (decide := true) only [bdset_a, urows.flat, urows_length, brow_len, urow_len, brow_flat]) only [brun_a, ↓brun_b, envOf, reduceIte, Nat.reduceEqDiff, Nat.reduceAdd, Nat.reduceSub, Nat.reduceMul, Nat.reduceBEq, Nat.reduceLeDiff, Nat.reduceLT, beq_self_eq_true, cond_true, cond_false, Int.reduceToNat, tab.u3, tab.s3, tab.a3, tab.u5, tab.s5, tab.a5, tab.u35, tab.s35, tab.a35, tab.u36, tab.s36, tab.a36, brow_len, brow_cell, brows_at, urows_length, urows_at, urow_cell, urow_len]
          simp only [decide_eq_true_eq] at h3
          rw [if_pos h3] at hg
          rw [hg]
          refine SQ.run (rs := [.tmp 4, .tmp 5, .tmp 6]) rfl rfl (fun ρ => SV.flat_ren ρ _ (nres.flat _)) ?_
          simp -dsimp (decide := true) (maxSteps := 1000000) (disch := first | omega | simp (decide := true) only [bdset_a, urows.flat, urows_length, brow_len, urow_len, brow_flat]) only [brun_a, ↓brun_b, envOf, reduceIte, Nat.reduceEqDiff, Nat.reduceAdd, Nat.reduceSub, Nat.reduceMul, Nat.reduceBEq, Nat.reduceLeDiff, Nat.reduceLT, beq_self_eq_true, cond_true, cond_false, Int.reduceToNat, tab.u3, tab.s3, tab.a3, tab.u5, tab.s5, tab.a5, tab.u35, tab.s35, tab.a35, tab.u36, tab.s36, tab.a36, nres, bwk_a, frz1, eq_self, implies_true, rho, ↓reduceIte, forall_const]
        · simp only [decide_eq_false_iff_not] at h3
          rw [if_neg h3] at hg
          obtain ⟨a, rfl⟩ : ∃ a : Nat, p = a := ⟨p.toNat, by omega⟩
          have ha : a < l.length := by omega
          simp only [Int.toNat_natCast] at hg
          simp -dsimp (decide := true) (maxSteps := 1000000) (disch := first | omega | simp (decide := true) only [bdset_a, urows.flat, urows_length, brow_len, urow_len, brow_flat]) only [brun_a, ↓brun_b, envOf, reduceIte, Nat.reduceEqDiff, Nat.reduceAdd, Nat.reduceSub, Nat.reduceMul, Nat.reduceBEq, Nat.reduceLeDiff, Nat.reduceLT, beq_self_eq_true, cond_true, cond_false, Int.reduceToNat, tab.u3, tab.s3, tab.a3, tab.u5, tab.s5, tab.a5, tab.u35, tab.s35, tab.a35, tab.u36, tab.s36, tab.a36, brow_len, brow_cell, brows_at, urows_length, urows_at, urow_cell, urow_len]
          refine And.intro (by omega) (And.intro (by omega) ?_)
          have hc := (l.getD a 0).toNat_lt
          have hok : numOk l a ↔ ((l.getD a 0).toNat ≤ 8 ∧ a + 1 + (l.getD a 0).toNat ≤ l.length ∧ ¬ (0 < (l.getD a 0).toNat ∧ (l.getD (a + 1) 0).toNat = 0)) := by
            unfold numOk
            rw [Int.toNat_natCast]
            constructor
            · rintro ⟨_, _, h⟩; exact h
            · intro h; exact ⟨by omega, by omega, h⟩
          generalize hcd : (l.getD a 0).toNat = c at *
          refine SCond.split (fun h4 => ?_) (fun h4 => ?_)
          · simp -dsimp (decide := true) (maxSteps := 1000000) (disch := first | omega | simp (decide := true) only [bdset_a, urows.flat, urows_length, brow_len, urow_len, brow_flat]) only [brun_a, ↓brun_b, envOf, reduceIte, Nat.reduceEqDiff, Nat.reduceAdd, Nat.reduceSub, Nat.reduceMul, Nat.reduceBEq, Nat.reduceLeDiff, Nat.reduceLT, beq_self_eq_true, cond_true, cond_false, Int.reduceToNat, tab.u3, tab.s3, tab.a3, tab.u5, tab.s5, tab.a5, tab.u35, tab.s35, tab.a35, tab.u36, tab.s36, tab.a36, brow_len, brow_cell, brows_at, urows_length, urows_at, urow_cell, urow_len]
            simp only [decide_eq_true_eq] at h4
            rw [if_pos (by omega)] at hg
            rw [hg]
            refine SQ.run (rs := [.tmp 4, .tmp 5, .tmp 6]) rfl rfl (fun ρ => SV.flat_ren ρ _ (nres.flat _)) ?_
            simp -dsimp (decide := true) (maxSteps := 1000000) (disch := first | omega | simp (decide := true) only [bdset_a, urows.flat, urows_length, brow_len, urow_len, brow_flat]) only [brun_a, ↓brun_b, envOf, reduceIte, Nat.reduceEqDiff, Nat.reduceAdd, Nat.reduceSub, Nat.reduceMul, Nat.reduceBEq, Nat.reduceLeDiff, Nat.reduceLT, beq_self_eq_true, cond_true, cond_false, Int.reduceToNat, tab.u3, tab.s3, tab.a3, tab.u5, tab.s5, tab.a5, tab.u35, tab.s35, tab.a35, tab.u36, tab.s36, tab.a36, nres, bwk_a, frz1, eq_self, implies_true, rho, ↓reduceIte, forall_const]
          · simp only [decide_eq_false_iff_not] at h4
            rw [if_neg (by omega)] at hg
            have hw1 : IntKind.i64.wrap (c : Int) = (c : Int) := wrap_i64 _ (by omega)
            have hw2 : IntKind.i64.wrap ((l.length : Int) - (a : Int)) = ((l.length - a : Nat) : Int) := by rw [wrap_i64 _ (by omega)]; omega
            have hw3 : IntKind.i64.wrap (((l.length - a : Nat) : Int) - 1) = ((l.length - a - 1 : Nat) : Int) := by rw [wrap_i64 _ (by omega)]; omega
            have hw4 : IntKind.i64.wrap ((a : Int) + 1) = ((a + 1 : Nat) : Int) := by rw [wrap_i64 _ (by omega)]; rfl
            simp -dsimp (decide := true) (maxSteps := 1000000) (disch := first | omega | simp (decide := true) only [bdset_a, urows.flat, urows_length, brow_len, urow_len, brow_flat]) only [brun_a, ↓brun_b, envOf, reduceIte, Nat.reduceEqDiff, Nat.reduceAdd, Nat.reduceSub, Nat.reduceMul, Nat.reduceBEq, Nat.reduceLeDiff, Nat.reduceLT, beq_self_eq_true, cond_true, cond_false, Int.reduceToNat, tab.u3, tab.s3, tab.a3, tab.u5, tab.s5, tab.a5, tab.u35, tab.s35, tab.a35, tab.u36, tab.s36, tab.a36, brow_len, brow_cell, brows_at, urows_length, urows_at, urow_cell, urow_len, hcd, hw1, hw2, hw3]
            refine And.intro (by omega) (And.intro (by omega) ?_)
            refine SCond.split (fun h5 => ?_) (fun h5 => ?_)
            · simp -dsimp (decide := true) (maxSteps := 1000000) (disch := first | omega | simp (decide := true) only [bdset_a, urows.flat, urows_length, brow_len, urow_len, brow_flat]) only [brun_a, ↓brun_b, envOf, reduceIte, Nat.reduceEqDiff, Nat.reduceAdd, Nat.reduceSub, Nat.reduceMul, Nat.reduceBEq, Nat.reduceLeDiff, Nat.reduceLT, beq_self_eq_true, cond_true, cond_false, Int.reduceToNat, tab.u3, tab.s3, tab.a3, tab.u5, tab.s5, tab.a5, tab.u35, tab.s35, tab.a35, tab.u36, tab.s36, tab.a36, brow_len, brow_cell, brows_at, urows_length, urows_at, urow_cell, urow_len]
              simp only [decide_eq_true_eq] at h5
              rw [if_pos (by omega)] at hg
              rw [hg]
              refine SQ.run (rs := [.tmp 4, .tmp 5, .tmp 6]) rfl rfl (fun ρ => SV.flat_ren ρ _ (nres.flat _)) ?_
              simp -dsimp (decide := true) (maxSteps := 1000000) (disch := first | omega | simp (decide := true) only [bdset_a, urows.flat, urows_length, brow_len, urow_len, brow_flat]) only [brun_a, ↓brun_b, envOf, reduceIte, Nat.reduceEqDiff, Nat.reduceAdd, Nat.reduceSub, Nat.reduceMul, Nat.reduceBEq, Nat.reduceLeDiff, Nat.reduceLT, beq_self_eq_true, cond_true, cond_false, Int.reduceToNat, tab.u3, tab.s3, tab.a3, tab.u5, tab.s5, tab.a5, tab.u35, tab.s35, tab.a35, tab.u36, tab.s36, tab.a36, nres, bwk_a, frz1, eq_self, implies_true, rho, ↓reduceIte, forall_const]
            · simp only [decide_eq_false_iff_not] at h5
              rw [if_neg (by omega)] at hg
              simp -dsimp (decide := true) (maxSteps := 1000000) (disch := first | omega | simp (decide := true) only [bdset_a, urows.flat, urows_length, brow_len, urow_len, brow_flat]) only [brun_a, ↓brun_b, envOf, reduceIte, Nat.reduceEqDiff, Nat.reduceAdd, Nat.reduceSub, Nat.reduceMul, Nat.reduceBEq, Nat.reduceLeDiff, Nat.reduceLT, beq_self_eq_true, cond_true, cond_false, Int.reduceToNat, tab.u3, tab.s3, tab.a3, tab.u5, tab.s5, tab.a5, tab.u35, tab.s35, tab.a35, tab.u36, tab.s36, tab.a36, brow_len, brow_cell, brows_at, urows_length, urows_at, urow_cell, urow_len, hcd]
              refine And.intro (by omega) (And.intro (by omega) ?_)
              refine SIf.split (fun h6 => ?_) (fun h6 => ?_)
              · have h6' : 0 < c := by simpa using h6
                simp -dsimp (decide := true) (maxSteps := 1000000) (disch := first | omega | simp (decide := true) only [bdset_a, urows.flat, urows_length, brow_len, urow_len, brow_flat]) only [brun_a, ↓brun_b, envOf, reduceIte, Nat.reduceEqDiff, Nat.reduceAdd, Nat.reduceSub, Nat.reduceMul, Nat.reduceBEq, Nat.reduceLeDiff, Nat.reduceLT, beq_self_eq_true, cond_true, cond_false, Int.reduceToNat, tab.u3, tab.s3, tab.a3, tab.u5, tab.s5, tab.a5, tab.u35, tab.s35, tab.a35, tab.u36, tab.s36, tab.a36, brow_len, brow_cell, brows_at, urows_length, urows_at, urow_cell, urow_len, h6, hw4]
                refine And.intro (by omega) (And.intro (by omega) ?_)
                refine SCond.split (fun h7 => ?_) (fun h7 => ?_)
                · simp -dsimp (decide := true) (maxSteps := 1000000) (disch := first | omega | simp (decide := true) only [bdset_a, urows.flat, urows_length, brow_len, urow_len, brow_flat]) only [brun_a, ↓brun_b, envOf, reduceIte, Nat.reduceEqDiff, Nat.reduceAdd, Nat.reduceSub, Nat.reduceMul, Nat.reduceBEq, Nat.reduceLeDiff, Nat.reduceLT, beq_self_eq_true, cond_true, cond_false, Int.reduceToNat, tab.u3, tab.s3, tab.a3, tab.u5, tab.s5, tab.a5, tab.u35, tab.s35, tab.a35, tab.u36, tab.s36, tab.a36, brow_len, brow_cell, brows_at, urows_length, urows_at, urow_cell, urow_len]
                  simp only [decide_eq_true_eq] at h7
                  rw [if_pos ⟨h6', by omega⟩] at hg
                  rw [hg]
                  refine SQ.run (rs := [.tmp 4, .tmp 5, .tmp 6]) rfl rfl (fun ρ => SV.flat_ren ρ _ (nres.flat _)) ?_
                  simp -dsimp (decide := true) (maxSteps := 1000000) (disch := first | omega | simp (decide := true) only [bdset_a, urows.flat, urows_length, brow_len, urow_len, brow_flat]) only [brun_a, ↓brun_b, envOf, reduceIte, Nat.reduceEqDiff, Nat.reduceAdd, Nat.reduceSub, Nat.reduceMul, Nat.reduceBEq, Nat.reduceLeDiff, Nat.reduceLT, beq_self_eq_true, cond_true, cond_false, Int.reduceToNat, tab.u3, tab.s3, tab.a3, tab.u5, tab.s5, tab.a5, tab.u35, tab.s35, tab.a35, tab.u36, tab.s36, tab.a36, nres, bwk_a, frz1, eq_self, implies_true, rho, ↓reduceIte, forall_const]
                · simp -dsimp (decide := true) (maxSteps := 1000000) (disch := first | omega | simp (decide := true) only [bdset_a, urows.flat, urows_length, brow_len, urow_len, brow_flat]) only [brun_a, ↓brun_b, envOf, reduceIte, Nat.reduceEqDiff, Nat.reduceAdd, Nat.reduceSub, Nat.reduceMul, Nat.reduceBEq, Nat.reduceLeDiff, Nat.reduceLT, beq_self_eq_true, cond_true, cond_false, Int.reduceToNat, tab.u3, tab.s3, tab.a3, tab.u5, tab.s5, tab.a5, tab.u35, tab.s35, tab.a35, tab.u36, tab.s36, tab.a36, brow_len, brow_cell, brows_at, urows_length, urows_at, urow_cell, urow_len]
                  simp only [decide_eq_false_iff_not] at h7
                  refine ⟨hok.2 ⟨by omega, by omega, fun h => h7 (by omega)⟩, [0], ?_⟩
                  (refine Wk.ofC ?_; simp -dsimp (decide := true) (maxSteps := 1000000) (disch := first | omega | simp (decide := true) only [bdset_a, urows.flat, urows_length, brow_len, urow_len, brow_flat]) only [brun_a, ↓brun_b, envOf, reduceIte, Nat.reduceEqDiff, Nat.reduceAdd, Nat.reduceSub, Nat.reduceMul, Nat.reduceBEq, Nat.reduceLeDiff, Nat.reduceLT, beq_self_eq_true, cond_true, cond_false, Int.reduceToNat, tab.u3, tab.s3, tab.a3, tab.u5, tab.s5, tab.a5, tab.u35, tab.s35, tab.a35, tab.u36, tab.s36, tab.a36, brow_len, brow_cell, brows_at, urows_length, urows_at, urow_cell, urow_len, bwk_a, frz1, eq_self, implies_true, rho, ↓reduceIte, forall_const])
              · have h6' : ¬ 0 < c := by simpa using h6
                simp -dsimp (decide := true) (maxSteps := 1000000) (disch := first | omega | simp (decide := true) only [bdset_a, urows.flat, urows_length, brow_len, urow_len, brow_flat]) only [brun_a, ↓brun_b, envOf, reduceIte, Nat.reduceEqDiff, Nat.reduceAdd, Nat.reduceSub, Nat.reduceMul, Nat.reduceBEq, Nat.reduceLeDiff, Nat.reduceLT, beq_self_eq_true, cond_true, cond_false, Int.reduceToNat, tab.u3, tab.s3, tab.a3, tab.u5, tab.s5, tab.a5, tab.u35, tab.s35, tab.a35, tab.u36, tab.s36, tab.a36, brow_len, brow_cell, brows_at, urows_length, urows_at, urow_cell, urow_len, h6]
                refine ⟨hok.2 ⟨by omega, by omega, fun h => h6' h.1⟩, [0], ?_⟩
                (refine Wk.ofC ?_; simp -dsimp (decide := true) (maxSteps := 1000000) (disch := first | omega | simp (decide := true) only [bdset_a, urows.flat, urows_length, brow_len, urow_len, brow_flat]) only [brun_a, ↓brun_b, envOf, reduceIte, Nat.reduceEqDiff, Nat.reduceAdd, Nat.reduceSub, Nat.reduceMul, Nat.reduceBEq, Nat.reduceLeDiff, Nat.reduceLT, beq_self_eq_true, cond_true, cond_false, Int.reduceToNat, tab.u3, tab.s3, tab.a3, tab.u5, tab.s5, tab.a5, tab.u35, tab.s35, tab.a35, tab.u36, tab.s36, tab.a36, brow_len, brow_cell, brows_at, urows_length, urows_at, urow_cell, urow_len, bwk_a, frz1, eq_self, implies_true, rho, ↓reduceIte, forall_const])
  · rintro s' ⟨⟨k1, k2, k3, k4, k5⟩, l', hw⟩
    refine Sem.weaken l' hw ?_
    obtain ⟨a, rfl⟩ : ∃ a : Nat, p = a := ⟨p.toNat, by omega⟩
    simp only [Int.toNat_natCast] at k3 k4 k5 hg
    rw [if_neg (by omega), if_neg (by omega), if_neg (by omega), if_neg (by omega), if_neg k5] at hg
    have hw4 : IntKind.i64.wrap ((a : Int) + 1) = ((a + 1 : Nat) : Int) := by rw [wrap_i64 _ (by omega)]; rfl
    generalize hcd : (l.getD a 0).toNat = c at *
    refine Sem.go (k := 1000) ?_
    simp -dsimp (decide := true) (maxSteps := 1000000) (disch := first | omega | simp (decide := true) only [bdset_a, urows.flat, urows_length, brow_len, urow_len, brow_flat]) only [brun_a, ↓brun_b, envOf, reduceIte, Nat.reduceEqDiff, Nat.reduceAdd, Nat.reduceSub, Nat.reduceMul, Nat.reduceBEq, Nat.reduceLeDiff, Nat.reduceLT, beq_self_eq_true, cond_true, cond_false, Int.reduceToNat, tab.u3, tab.s3, tab.a3, tab.u5, tab.s5, tab.a5, tab.u35, tab.s35, tab.a35, tab.u36, tab.s36, tab.a36, brow_len, brow_cell, brows_at, urows_length, urows_at, urow_cell, urow_len]
    refine Sem.draw' (by kernel_rfl) (.one 0 (.one 1 (.one 2 (.one 3 (.one 4 (.one 5 (.one 6 (.one 7 (.one 8 (.one 9 (.one 10 .done))))))))))) [] (by kernel_rfl) (fun G ff hG hf => ?_)
    simp (decide := true) only [roL_in, roL_row, roL_nil, roL_none, ro_mk, Nat.zero_add, Nat.reduceAdd, List.length_cons, List.length_nil] at hG ⊢
    have hm : ((l.drop (a + 1)).take c).length = c := by rw [List.length_take, List.length_drop]; omega
    have hgm : ∀ i, i < c → ((l.drop (a + 1)).take c).getD i 0 = l.getD (a + 1 + i) 0 := fun i hi => by
      simp [List.getD_eq_getElem?_getD, List.getElem?_drop, List.getElem?_take, hi]
    have hc0 : ((c : Int) - 0).toNat = c := by omega
    simp -dsimp (decide := true) (maxSteps := 1000000) (disch := first | omega | simp (decide := true) only [bdset_a, urows.flat, urows_length, brow_len, urow_len, brow_flat]) only [brun_a, ↓brun_b, envOf, reduceIte, Nat.reduceEqDiff, Nat.reduceAdd, Nat.reduceSub, Nat.reduceMul, Nat.reduceBEq, Nat.reduceLeDiff, Nat.reduceLT, beq_self_eq_true, cond_true, cond_false, Int.reduceToNat, tab.u3, tab.s3, tab.a3, tab.u5, tab.s5, tab.a5, tab.u35, tab.s35, tab.a35, tab.u36, tab.s36, tab.a36, brow_len, brow_cell, brows_at, urows_length, urows_at, urow_cell, urow_len, hw4, hcd, hG, hc0]
    refine And.intro (by omega) (And.intro (by omega) (And.intro (by omega) (And.intro (by omega) ?_)))
    generalize (l.drop (a + 1)).take c = m at *
    refine hf _ (Sem.go (k := 1000) ?_)
    simp (decide := true) only [back_mk, backL_in, backL_row, backL_none, backL_nil, Nat.zero_add, Nat.reduceAdd]
    simp -dsimp (decide := true) (maxSteps := 1000000) (disch := first | omega | simp (decide := true) only [bdset_a, urows.flat, urows_length, brow_len, urow_len, brow_flat]) only [brun_a, ↓brun_b, envOf, reduceIte, Nat.reduceEqDiff, Nat.reduceAdd, Nat.reduceSub, Nat.reduceMul, Nat.reduceBEq, Nat.reduceLeDiff, Nat.reduceLT, beq_self_eq_true, cond_true, cond_false, Int.reduceToNat, tab.u3, tab.s3, tab.a3, tab.u5, tab.s5, tab.a5, tab.u35, tab.s35, tab.a35, tab.u36, tab.s36, tab.a36, brow_len, brow_cell, brows_at, urows_length, urows_at, urow_cell, urow_len, hm]
    refine Sem.loop (ι := {k : Nat // k ≤ c}) (fun k => ⟨85, 1, [(0, .slc 0 0 l.length), (1, .v (.int .i64 (a : Int))), (64, .slc 0 (a + 1) c), (65, .v (.int .i64 (c : Int))), (66, .v (.int .i64 (k.1 : Int))), (7, .v (.int .u64 (numB (m.take k.1) : Int)))], [some (.row ⟨1, l.length, false, 5, brow l⟩)]⟩) (fun k => c - k.1) ⟨0, by omega⟩ [0] ?_ ?_
    · (refine Wk.ofC ?_; simp -dsimp (decide := true) (maxSteps := 1000000) (disch := first | omega | simp (decide := true) only [bdset_a, urows.flat, urows_length, brow_len, urow_len, brow_flat]) only [brun_a, ↓brun_b, envOf, reduceIte, Nat.reduceEqDiff, Nat.reduceAdd, Nat.reduceSub, Nat.reduceMul, Nat.reduceBEq, Nat.reduceLeDiff, Nat.reduceLT, beq_self_eq_true, cond_true, cond_false, Int.reduceToNat, tab.u3, tab.s3, tab.a3, tab.u5, tab.s5, tab.a5, tab.u35, tab.s35, tab.a35, tab.u36, tab.s36, tab.a36, brow_len, brow_cell, brows_at, urows_length, urows_at, urow_cell, urow_len, List.take_zero, numB, List.foldl_nil, bwk_a, frz1, eq_self, implies_true, rho, ↓reduceIte, forall_const])
    · rintro ⟨k, hk⟩
      refine Sem.go (k := 1000) ?_
      simp -dsimp (decide := true) (maxSteps := 1000000) (disch := first | omega | simp (decide := true) only [bdset_a, urows.flat, urows_length, brow_len, urow_len, brow_flat]) only [brun_a, ↓brun_b, envOf, reduceIte, Nat.reduceEqDiff, Nat.reduceAdd, Nat.reduceSub, Nat.reduceMul, Nat.reduceBEq, Nat.reduceLeDiff, Nat.reduceLT, beq_self_eq_true, cond_true, cond_false, Int.reduceToNat, tab.u3, tab.s3, tab.a3, tab.u5, tab.s5, tab.a5, tab.u35, tab.s35, tab.a35, tab.u36, tab.s36, tab.a36, brow_len, brow_cell, brows_at, urows_length, urows_at, urow_cell, urow_len]
      refine SCond.split (fun h => ?_) (fun h => ?_)
      · simp only [decide_eq_true_eq] at h
        have hk' : k < m.length := by omega
        have hw5 : IntKind.i64.wrap ((k : Int) + 1) = ((k + 1 : Nat) : Int) := by rw [wrap_i64 _ (by omega)]; rfl
        have hgk := hgm k (by omega)
        have h1 := numB_lt (m.take k)
        have h2 := pow256_le (m.take k).length 7 (by simp; omega)
        have h3 := numB_take m k hk'
        have h4 := (m.getD k 0).toNat_lt
        have h5 : (256 : Nat) ^ 7 = 72057594037927936 := by decide
        have hsh : IntKind.u64.wrap ((numB (m.take k) : Int) * 2 ^ (min 8 IntKind.u64.bits)) = ((numB (m.take k) * 256 : Nat) : Int) := by
          have : min 8 IntKind.u64.bits = 8 := by decide
          rw [this, wrap_u64 _ (by omega)]
          omega
        have hwx : IntKind.u64.wrap ((m.getD k 0).toNat : Int) = ((m.getD k 0).toNat : Int) := wrap_u64 _ (by omega)
        have hor := or_u64 (numB (m.take k)) (m.getD k 0).toNat (by omega) (by omega)
        simp -dsimp (decide := true) (maxSteps := 1000000) (disch := first | omega | simp (decide := true) only [bdset_a, urows.flat, urows_length, brow_len, urow_len, brow_flat]) only [brun_a, ↓brun_b, envOf, reduceIte, Nat.reduceEqDiff, Nat.reduceAdd, Nat.reduceSub, Nat.reduceMul, Nat.reduceBEq, Nat.reduceLeDiff, Nat.reduceLT, beq_self_eq_true, cond_true, cond_false, Int.reduceToNat, tab.u3, tab.s3, tab.a3, tab.u5, tab.s5, tab.a5, tab.u35, tab.s35, tab.a35, tab.u36, tab.s36, tab.a36, brow_len, brow_cell, brows_at, urows_length, urows_at, urow_cell, urow_len, hm, hw5, ← hgk, hsh, hwx, hor]
        refine And.intro (by omega) (And.intro (by omega) ⟨⟨k + 1, by omega⟩, [0], ?_, by show c - (k + 1) < c - k; omega⟩)
        (refine Wk.ofC ?_; simp -dsimp (decide := true) (maxSteps := 1000000) (disch := first | omega | simp (decide := true) only [bdset_a, urows.flat, urows_length, brow_len, urow_len, brow_flat]) only [brun_a, ↓brun_b, envOf, reduceIte, Nat.reduceEqDiff, Nat.reduceAdd, Nat.reduceSub, Nat.reduceMul, Nat.reduceBEq, Nat.reduceLeDiff, Nat.reduceLT, beq_self_eq_true, cond_true, cond_false, Int.reduceToNat, tab.u3, tab.s3, tab.a3, tab.u5, tab.s5, tab.a5, tab.u35, tab.s35, tab.a35, tab.u36, tab.s36, tab.a36, brow_len, brow_cell, brows_at, urows_length, urows_at, urow_cell, urow_len, h3, bwk_a, frz1, eq_self, implies_true, rho, ↓reduceIte, forall_const])
      · simp -dsimp (decide := true) (maxSteps := 1000000) (disch := first | omega | simp (decide := true) only [bdset_a, urows.flat, urows_length, brow_len, urow_len, brow_flat]) only [brun_a, ↓brun_b, envOf, reduceIte, Nat.reduceEqDiff, Nat.reduceAdd, Nat.reduceSub, Nat.reduceMul, Nat.reduceBEq, Nat.reduceLeDiff, Nat.reduceLT, beq_self_eq_true, cond_true, cond_false, Int.reduceToNat, tab.u3, tab.s3, tab.a3, tab.u5, tab.s5, tab.a5, tab.u35, tab.s35, tab.a35, tab.u36, tab.s36, tab.a36, brow_len, brow_cell, brows_at, urows_length, urows_at, urow_cell, urow_len]
        simp only [decide_eq_false_iff_not] at h
        obtain rfl : k = c := by omega
        refine Sem.draw' (by kernel_rfl) (.one 0 (.one 1 (.one 2 (.one 3 (.one 4 (.one 5 (.one 6 (.one 7 (.one 8 (.one 9 (.one 10 (.one 11 .done)))))))))))) [] (by kernel_rfl) (fun G ff hG hf => ?_)
        simp (decide := true) only [roL_in, roL_row, roL_nil, roL_none, ro_mk, Nat.zero_add, Nat.reduceAdd, List.length_cons, List.length_nil] at hG ⊢
        have hw6 : IntKind.i64.wrap (k : Int) = (k : Int) := wrap_i64 _ (by omega)
        have hw7 : IntKind.i64.wrap (((a + 1 : Nat) : Int) + (k : Int)) = (a : Int) + 1 + k := by rw [wrap_i64 _ (by omega)]; omega
        simp -dsimp (decide := true) (maxSteps := 1000000) (disch := first | omega | simp (decide := true) only [bdset_a, urows.flat, urows_length, brow_len, urow_len, brow_flat]) only [brun_a, ↓brun_b, envOf, reduceIte, Nat.reduceEqDiff, Nat.reduceAdd, Nat.reduceSub, Nat.reduceMul, Nat.reduceBEq, Nat.reduceLeDiff, Nat.reduceLT, beq_self_eq_true, cond_true, cond_false, Int.reduceToNat, tab.u3, tab.s3, tab.a3, tab.u5, tab.s5, tab.a5, tab.u35, tab.s35, tab.a35, tab.u36, tab.s36, tab.a36, brow_len, brow_cell, brows_at, urows_length, urows_at, urow_cell, urow_len, hw4, hcd, hw6, hw7, hG]
        refine And.intro (by omega) (And.intro (by omega) ?_)
        refine hf _ (Sem.go (k := 1000) ?_)
        simp (decide := true) only [back_mk, backL_in, backL_row, backL_none, backL_nil, Nat.zero_add, Nat.reduceAdd]
        simp -dsimp (decide := true) (maxSteps := 1000000) (disch := first | omega | simp (decide := true) only [bdset_a, urows.flat, urows_length, brow_len, urow_len, brow_flat]) only [brun_a, ↓brun_b, envOf, reduceIte, Nat.reduceEqDiff, Nat.reduceAdd, Nat.reduceSub, Nat.reduceMul, Nat.reduceBEq, Nat.reduceLeDiff, Nat.reduceLT, beq_self_eq_true, cond_true, cond_false, Int.reduceToNat, tab.u3, tab.s3, tab.a3, tab.u5, tab.s5, tab.a5, tab.u35, tab.s35, tab.a35, tab.u36, tab.s36, tab.a36]
        have hmt : m.take k = m := List.take_of_length_le (by omega)
        rw [hg]
        refine SQ.run (rs := [.tmp 4, .tmp 5, .tmp 6]) rfl rfl (fun ρ => SV.flat_ren ρ _ (nres.flat _)) ?_
        simp -dsimp (decide := true) (maxSteps := 1000000) (disch := first | omega | simp (decide := true) only [bdset_a, urows.flat, urows_length, brow_len, urow_len, brow_flat]) only [brun_a, ↓brun_b, envOf, reduceIte, Nat.reduceEqDiff, Nat.reduceAdd, Nat.reduceSub, Nat.reduceMul, Nat.reduceBEq, Nat.reduceLeDiff, Nat.reduceLT, beq_self_eq_true, cond_true, cond_false, Int.reduceToNat, tab.u3, tab.s3, tab.a3, tab.u5, tab.s5, tab.a5, tab.u35, tab.s35, tab.a35, tab.u36, tab.s36, tab.a36, nres, hmt, bwk_a, frz1, eq_self, implies_true, rho, ↓reduceIte, forall_const]
end Go.Proofs
