/- Texts and identities read out of bytes: what wire.GetText and wire.GetID answer, and the document's, of any bytes that fit, at any place. -/
import Derived.Test.YtheodenjjaoncaaWireE
set_option linter.unusedVariables false
set_option linter.unusedSimpArgs false
namespace Go.SL
open Go
theorem brows_nil : brows [] = [] := rfl
theorem ent_rows {fz : Nat → Option SB} {ρ : Nat → Nat} {l : List UInt8} {i : Nat} {r : List SV} (h : (brows l)[i]? = some r) : EntL fz ρ r ((brows l).getD (0 + i) []) := by
  obtain ⟨h1, rfl⟩ := brows_get h
  rw [Nat.zero_add, brows_at l i h1]
  exact EntL.self rfl
theorem getNum_ok (l : List UInt8) (p : Int) (h : (getNum l p).2.2 = 0) : ∃ k : Nat, (getNum l p).2.1 = k ∧ k ≤ l.length ∧ (getNum l p).1 < 18446744073709551616 ∧ 0 ≤ p ∧ p < k := by
  unfold getNum at *
  split
  · rename_i h1; rw [if_pos h1] at h; simp at h
  · rename_i h1
    rw [if_neg h1] at h
    split
    · rename_i h2; rw [if_pos h2] at h; simp at h
    · rename_i h2
      rw [if_neg h2] at h
      simp only at h ⊢
      split
      · rename_i h3; rw [if_pos h3] at h; simp at h
      · rename_i h3
        rw [if_neg h3] at h
        split
        · rename_i h4; rw [if_pos h4] at h; simp at h
        · rename_i h4
          rw [if_neg h4] at h
          split
          · rename_i h5; rw [if_pos h5] at h; simp at h
          · have hlt := numB_lt ((l.drop (p.toNat + 1)).take (l.getD p.toNat 0).toNat)
            have hl : ((l.drop (p.toNat + 1)).take (l.getD p.toNat 0).toNat).length = (l.getD p.toNat 0).toNat := by rw [List.length_take, List.length_drop]; omega
            have hp := pow256_le (l.getD p.toNat 0).toNat 8 (by omega)
            have h8 : (256 : Nat) ^ 8 = 18446744073709551616 := by decide
            rw [hl] at hlt
            refine ⟨p.toNat + 1 + (l.getD p.toNat 0).toNat, ?_, ?_, ?_, ?_, ?_⟩ <;> (try dsimp only) <;> omega
/-- What is read as a text at a place. -/
def getText (l : List UInt8) (p most : Int) : List UInt8 × Int × Int :=
  if (getNum l p).2.2 ≠ 0 then ([], 0, (getNum l p).2.2) else if most < 0 ∨ most < (getNum l p).1 then ([], 0, 4)
  else if (l.length : Int) - (getNum l p).2.1 < (getNum l p).1 then ([], 0, 3)
  else ((l.drop (getNum l p).2.1.toNat).take (getNum l p).1, (getNum l p).2.1 + (getNum l p).1, 0)
def tres (r : List UInt8 × Int × Int) : SV := .tup [bsl r.1, .v (.int .i64 r.2.1), .v (.int .i64 r.2.2)]
theorem tres.flat (r : List UInt8 × Int × Int) : (tres r).flat = true := by
  simp only [tres, flat_tup, flatL_cons, flatL_nil, flat_rsl, flat_v, flatR_brows, Bool.and_self]
end Go.SL
namespace Go.Proofs
open Go Go.SL
set_option maxRecDepth 100000
theorem bs35_0 (N : Nat) : sBuildSlice Try.prog N 35 0 [] = some ⟨.slc N 0 0, ⟨none, some (.row ⟨1, 0, true, 5, fun e => (([] : List SV).drop (e * 1)).take 1⟩)⟩, True⟩ := by kernel_rfl
theorem getText_calls (l : List UInt8) (p most : Int) (hl : l.length ≤ 140737488355328) (hp : -9223372036854775808 ≤ p ∧ p < 9223372036854775808) (hm : most < 9223372036854775808) : Pure Try.prog 66 [bsl l, .v (.int .i64 p), .v (.int .i64 most)] (tres (getText l p most)) := by
  have hg : getText l p most = getText l p most := rfl
  conv at hg => rhs; unfold getText
  have hok := getNum_ok l p
  refine SCall.mk (fn := Try.f66) (by kernel_rfl) rfl (Nat.le_of_ble_eq_true (by kernel_rfl)) ?_
  refine Sem.go (k := 1000) ?_
  simp -dsimp (decide := true) (maxSteps := 1000000) (disch := first | omega | simp (decide := true) only [bdset_a, nres.flat, tres.flat, urows.flat, urows_length, brow_len, urow_len, brow_flat]) only [brun_a, ↓brun_b, envOf, reduceIte, Nat.reduceEqDiff, Nat.reduceAdd, Nat.reduceSub, Nat.reduceMul, Nat.reduceBEq, Nat.reduceLeDiff, Nat.reduceLT, beq_self_eq_true, cond_true, cond_false, Int.reduceToNat, tab.u3, tab.s3, tab.a3, tab.u5, tab.s5, tab.a5, tab.u35, tab.s35, tab.a35, tab.u36, tab.s36, tab.a36, tab.u37, tab.s37, tab.a37, brow_len, brow_cell, brows_at, urows_length, urows_at, urow_cell, urow_len]
  refine SemOps.callq (k := 1000) cal.f42 (getNum_calls l p (by omega) hp) rfl rfl rfl rfl (by simp only [bflat_a, nres.flat, tres.flat, urows.flat, brow_flat]) (by simp only [bflat_a, nres.flat, tres.flat, urows.flat, brow_flat]) (by simp -dsimp (decide := true) (maxSteps := 1000000) (disch := first | omega | simp (decide := true) only [bdset_a, nres.flat, tres.flat, urows.flat, urows_length, brow_len, urow_len, brow_flat]) only [brun_a, ↓brun_b, envOf, reduceIte, Nat.reduceEqDiff, Nat.reduceAdd, Nat.reduceSub, Nat.reduceMul, Nat.reduceBEq, Nat.reduceLeDiff, Nat.reduceLT, beq_self_eq_true, cond_true, cond_false, Int.reduceToNat, tab.u3, tab.s3, tab.a3, tab.u5, tab.s5, tab.a5, tab.u35, tab.s35, tab.a35, tab.u36, tab.s36, tab.a36, tab.u37, tab.s37, tab.a37]) ?_
  generalize getNum l p = r at *
  obtain ⟨n, e, c⟩ := r
  simp only at hok hg
  simp -dsimp (decide := true) (maxSteps := 1000000) (disch := first | omega | simp (decide := true) only [bdset_a, nres.flat, tres.flat, urows.flat, urows_length, brow_len, urow_len, brow_flat]) only [brun_a, ↓brun_b, envOf, reduceIte, Nat.reduceEqDiff, Nat.reduceAdd, Nat.reduceSub, Nat.reduceMul, Nat.reduceBEq, Nat.reduceLeDiff, Nat.reduceLT, beq_self_eq_true, cond_true, cond_false, Int.reduceToNat, tab.u3, tab.s3, tab.a3, tab.u5, tab.s5, tab.a5, tab.u35, tab.s35, tab.a35, tab.u36, tab.s36, tab.a36, tab.u37, tab.s37, tab.a37, brow_len, brow_cell, brows_at, urows_length, urows_at, urow_cell, urow_len, nres]
  refine SCond.split (fun h => ?_) (fun h => ?_)
  · have hc : c ≠ 0 := by simpa using h
    rw [if_pos hc] at hg
    rw [hg]
    simp -dsimp (decide := true) (maxSteps := 1000000) (disch := first | omega | simp (decide := true) only [bdset_a, nres.flat, tres.flat, urows.flat, urows_length, brow_len, urow_len, brow_flat]) only [brun_a, ↓brun_b, envOf, reduceIte, Nat.reduceEqDiff, Nat.reduceAdd, Nat.reduceSub, Nat.reduceMul, Nat.reduceBEq, Nat.reduceLeDiff, Nat.reduceLT, beq_self_eq_true, cond_true, cond_false, Int.reduceToNat, tab.u3, tab.s3, tab.a3, tab.u5, tab.s5, tab.a5, tab.u35, tab.s35, tab.a35, tab.u36, tab.s36, tab.a36, tab.u37, tab.s37, tab.a37, brow_len, brow_cell, brows_at, urows_length, urows_at, urow_cell, urow_len]
    refine SQ.answer (rs := [.tmp 6, .tmp 7, .tmp 8]) rfl rfl ?_
    simp -dsimp (decide := true) (maxSteps := 1000000) (disch := first | omega | simp (decide := true) only [bdset_a, nres.flat, tres.flat, urows.flat, urows_length, brow_len, urow_len, brow_flat]) only [brun_a, ↓brun_b, envOf, reduceIte, Nat.reduceEqDiff, Nat.reduceAdd, Nat.reduceSub, Nat.reduceMul, Nat.reduceBEq, Nat.reduceLeDiff, Nat.reduceLT, beq_self_eq_true, cond_true, cond_false, Int.reduceToNat, tab.u3, tab.s3, tab.a3, tab.u5, tab.s5, tab.a5, tab.u35, tab.s35, tab.a35, tab.u36, tab.s36, tab.a36, tab.u37, tab.s37, tab.a37, tres, bsl, brows_nil, bwk_a, frz1, eq_self, implies_true, rho, ↓reduceIte, forall_const]
  · have hc : c = 0 := by simpa using h
    subst hc
    rw [if_neg (by simp)] at hg
    obtain ⟨k, rfl, hk, hn, hp0, hpk⟩ := hok rfl
    have hw1 : IntKind.i64.wrap ((l.length : Int) - (k : Int)) = ((l.length - k : Nat) : Int) := by rw [wrap_i64 _ (by omega)]; omega
    have hw2 : IntKind.u64.wrap ((l.length - k : Nat) : Int) = ((l.length - k : Nat) : Int) := wrap_u64 _ (by omega)
    simp -dsimp (decide := true) (maxSteps := 1000000) (disch := first | omega | simp (decide := true) only [bdset_a, nres.flat, tres.flat, urows.flat, urows_length, brow_len, urow_len, brow_flat]) only [brun_a, ↓brun_b, envOf, reduceIte, Nat.reduceEqDiff, Nat.reduceAdd, Nat.reduceSub, Nat.reduceMul, Nat.reduceBEq, Nat.reduceLeDiff, Nat.reduceLT, beq_self_eq_true, cond_true, cond_false, Int.reduceToNat, tab.u3, tab.s3, tab.a3, tab.u5, tab.s5, tab.a5, tab.u35, tab.s35, tab.a35, tab.u36, tab.s36, tab.a36, tab.u37, tab.s37, tab.a37, brow_len, brow_cell, brows_at, urows_length, urows_at, urow_cell, urow_len]
    refine SIf.split (fun h1 => ?_) (fun h1 => ?_)
    · have h1' : most < 0 := by simpa using h1
      rw [if_pos (.inl h1')] at hg
      rw [hg]
      simp -dsimp (decide := true) (maxSteps := 1000000) (disch := first | omega | simp (decide := true) only [bdset_a, nres.flat, tres.flat, urows.flat, urows_length, brow_len, urow_len, brow_flat]) only [brun_a, ↓brun_b, envOf, reduceIte, Nat.reduceEqDiff, Nat.reduceAdd, Nat.reduceSub, Nat.reduceMul, Nat.reduceBEq, Nat.reduceLeDiff, Nat.reduceLT, beq_self_eq_true, cond_true, cond_false, Int.reduceToNat, tab.u3, tab.s3, tab.a3, tab.u5, tab.s5, tab.a5, tab.u35, tab.s35, tab.a35, tab.u36, tab.s36, tab.a36, tab.u37, tab.s37, tab.a37, brow_len, brow_cell, brows_at, urows_length, urows_at, urow_cell, urow_len, h1]
      refine SQ.answer (rs := [.tmp 6, .tmp 7, .tmp 8]) rfl rfl ?_
      simp -dsimp (decide := true) (maxSteps := 1000000) (disch := first | omega | simp (decide := true) only [bdset_a, nres.flat, tres.flat, urows.flat, urows_length, brow_len, urow_len, brow_flat]) only [brun_a, ↓brun_b, envOf, reduceIte, Nat.reduceEqDiff, Nat.reduceAdd, Nat.reduceSub, Nat.reduceMul, Nat.reduceBEq, Nat.reduceLeDiff, Nat.reduceLT, beq_self_eq_true, cond_true, cond_false, Int.reduceToNat, tab.u3, tab.s3, tab.a3, tab.u5, tab.s5, tab.a5, tab.u35, tab.s35, tab.a35, tab.u36, tab.s36, tab.a36, tab.u37, tab.s37, tab.a37, tres, bsl, brows_nil, bwk_a, frz1, eq_self, implies_true, rho, ↓reduceIte, forall_const]
    · have h1' : ¬ most < 0 := by simpa using h1
      have hw3 : IntKind.u64.wrap most = most := wrap_u64 _ (by omega)
      simp -dsimp (decide := true) (maxSteps := 1000000) (disch := first | omega | simp (decide := true) only [bdset_a, nres.flat, tres.flat, urows.flat, urows_length, brow_len, urow_len, brow_flat]) only [brun_a, ↓brun_b, envOf, reduceIte, Nat.reduceEqDiff, Nat.reduceAdd, Nat.reduceSub, Nat.reduceMul, Nat.reduceBEq, Nat.reduceLeDiff, Nat.reduceLT, beq_self_eq_true, cond_true, cond_false, Int.reduceToNat, tab.u3, tab.s3, tab.a3, tab.u5, tab.s5, tab.a5, tab.u35, tab.s35, tab.a35, tab.u36, tab.s36, tab.a36, tab.u37, tab.s37, tab.a37, brow_len, brow_cell, brows_at, urows_length, urows_at, urow_cell, urow_len, h1, hw3]
      refine SCond.split (fun h2 => ?_) (fun h2 => ?_)
      · have h2' : most < n := by simpa using h2
        rw [if_pos (.inr h2')] at hg
        rw [hg]
        simp -dsimp (decide := true) (maxSteps := 1000000) (disch := first | omega | simp (decide := true) only [bdset_a, nres.flat, tres.flat, urows.flat, urows_length, brow_len, urow_len, brow_flat]) only [brun_a, ↓brun_b, envOf, reduceIte, Nat.reduceEqDiff, Nat.reduceAdd, Nat.reduceSub, Nat.reduceMul, Nat.reduceBEq, Nat.reduceLeDiff, Nat.reduceLT, beq_self_eq_true, cond_true, cond_false, Int.reduceToNat, tab.u3, tab.s3, tab.a3, tab.u5, tab.s5, tab.a5, tab.u35, tab.s35, tab.a35, tab.u36, tab.s36, tab.a36, tab.u37, tab.s37, tab.a37, brow_len, brow_cell, brows_at, urows_length, urows_at, urow_cell, urow_len]
        refine SQ.answer (rs := [.tmp 6, .tmp 7, .tmp 8]) rfl rfl ?_
        simp -dsimp (decide := true) (maxSteps := 1000000) (disch := first | omega | simp (decide := true) only [bdset_a, nres.flat, tres.flat, urows.flat, urows_length, brow_len, urow_len, brow_flat]) only [brun_a, ↓brun_b, envOf, reduceIte, Nat.reduceEqDiff, Nat.reduceAdd, Nat.reduceSub, Nat.reduceMul, Nat.reduceBEq, Nat.reduceLeDiff, Nat.reduceLT, beq_self_eq_true, cond_true, cond_false, Int.reduceToNat, tab.u3, tab.s3, tab.a3, tab.u5, tab.s5, tab.a5, tab.u35, tab.s35, tab.a35, tab.u36, tab.s36, tab.a36, tab.u37, tab.s37, tab.a37, tres, bsl, brows_nil, bwk_a, frz1, eq_self, implies_true, rho, ↓reduceIte, forall_const]
      · have h2' : ¬ most < n := by simpa using h2
        rw [if_neg (by omega)] at hg
        simp -dsimp (decide := true) (maxSteps := 1000000) (disch := first | omega | simp (decide := true) only [bdset_a, nres.flat, tres.flat, urows.flat, urows_length, brow_len, urow_len, brow_flat]) only [brun_a, ↓brun_b, envOf, reduceIte, Nat.reduceEqDiff, Nat.reduceAdd, Nat.reduceSub, Nat.reduceMul, Nat.reduceBEq, Nat.reduceLeDiff, Nat.reduceLT, beq_self_eq_true, cond_true, cond_false, Int.reduceToNat, tab.u3, tab.s3, tab.a3, tab.u5, tab.s5, tab.a5, tab.u35, tab.s35, tab.a35, tab.u36, tab.s36, tab.a36, tab.u37, tab.s37, tab.a37, brow_len, brow_cell, brows_at, urows_length, urows_at, urow_cell, urow_len, hw1, hw2]
        refine SCond.split (fun h3 => ?_) (fun h3 => ?_)
        · simp only [decide_eq_true_eq] at h3
          rw [if_pos (by omega)] at hg
          rw [hg]
          simp -dsimp (decide := true) (maxSteps := 1000000) (disch := first | omega | simp (decide := true) only [bdset_a, nres.flat, tres.flat, urows.flat, urows_length, brow_len, urow_len, brow_flat]) only [brun_a, ↓brun_b, envOf, reduceIte, Nat.reduceEqDiff, Nat.reduceAdd, Nat.reduceSub, Nat.reduceMul, Nat.reduceBEq, Nat.reduceLeDiff, Nat.reduceLT, beq_self_eq_true, cond_true, cond_false, Int.reduceToNat, tab.u3, tab.s3, tab.a3, tab.u5, tab.s5, tab.a5, tab.u35, tab.s35, tab.a35, tab.u36, tab.s36, tab.a36, tab.u37, tab.s37, tab.a37, brow_len, brow_cell, brows_at, urows_length, urows_at, urow_cell, urow_len]
          refine SQ.answer (rs := [.tmp 6, .tmp 7, .tmp 8]) rfl rfl ?_
          simp -dsimp (decide := true) (maxSteps := 1000000) (disch := first | omega | simp (decide := true) only [bdset_a, nres.flat, tres.flat, urows.flat, urows_length, brow_len, urow_len, brow_flat]) only [brun_a, ↓brun_b, envOf, reduceIte, Nat.reduceEqDiff, Nat.reduceAdd, Nat.reduceSub, Nat.reduceMul, Nat.reduceBEq, Nat.reduceLeDiff, Nat.reduceLT, beq_self_eq_true, cond_true, cond_false, Int.reduceToNat, tab.u3, tab.s3, tab.a3, tab.u5, tab.s5, tab.a5, tab.u35, tab.s35, tab.a35, tab.u36, tab.s36, tab.a36, tab.u37, tab.s37, tab.a37, tres, bsl, brows_nil, bwk_a, frz1, eq_self, implies_true, rho, ↓reduceIte, forall_const]
        · simp only [decide_eq_false_iff_not] at h3
          rw [if_neg (by omega)] at hg
          have hw4 : IntKind.i64.wrap (n : Int) = (n : Int) := wrap_i64 _ (by omega)
          have hw5 : IntKind.i64.wrap ((k : Int) + (n : Int)) = ((k + n : Nat) : Int) := by rw [wrap_i64 _ (by omega)]; rfl
          simp -dsimp (decide := true) (maxSteps := 1000000) (disch := first | omega | simp (decide := true) only [bdset_a, nres.flat, tres.flat, urows.flat, urows_length, brow_len, urow_len, brow_flat]) only [brun_a, ↓brun_b, envOf, reduceIte, Nat.reduceEqDiff, Nat.reduceAdd, Nat.reduceSub, Nat.reduceMul, Nat.reduceBEq, Nat.reduceLeDiff, Nat.reduceLT, beq_self_eq_true, cond_true, cond_false, Int.reduceToNat, tab.u3, tab.s3, tab.a3, tab.u5, tab.s5, tab.a5, tab.u35, tab.s35, tab.a35, tab.u36, tab.s36, tab.a36, tab.u37, tab.s37, tab.a37, brow_len, brow_cell, brows_at, urows_length, urows_at, urow_cell, urow_len, hw4, hw5, bs35_0, sapp1_sl el5]
          have hm : (l.take (k + n)).drop k = (l.drop k).take n := by rw [List.drop_take]; congr 1; omega
          rw [hm]
          have hlen : ((l.drop k).take n).length = n := by simp; omega
          rw [hg]
          simp only [Int.toNat_natCast]
          refine ⟨⟨by omega, by omega, by omega⟩, by omega, ?_⟩
          refine SQ.answer (rs := [.tmp 6, .tmp 7, .tmp 8]) rfl rfl ?_
          simp -dsimp (decide := true) (maxSteps := 1000000) (disch := first | omega | simp (decide := true) only [bdset_a, nres.flat, tres.flat, urows.flat, urows_length, brow_len, urow_len, brow_flat]) only [brun_a, ↓brun_b, envOf, reduceIte, Nat.reduceEqDiff, Nat.reduceAdd, Nat.reduceSub, Nat.reduceMul, Nat.reduceBEq, Nat.reduceLeDiff, Nat.reduceLT, beq_self_eq_true, cond_true, cond_false, Int.reduceToNat, tab.u3, tab.s3, tab.a3, tab.u5, tab.s5, tab.a5, tab.u35, tab.s35, tab.a35, tab.u36, tab.s36, tab.a36, tab.u37, tab.s37, tab.a37, tres, bsl, bwk_a, frz1, eq_self, implies_true, rho, ↓reduceIte, forall_const]
          refine And.intro (Ent_row rfl rfl (brows_length _).symm (by omega) fun i r hr => ent_rows hr) ?_
          rw [Int.natCast_add]
end Go.Proofs
