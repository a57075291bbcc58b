/- The document's arithmetic of identities: annuletref01.ID, Sub, Compare. -/
import Derived.Test.YtheodenjjaoncaaIdB
set_option linter.unusedVariables false
set_option linter.unusedSimpArgs false
namespace Go.SL
open Go
theorem wrap_u64_mod (x : Int) : IntKind.u64.wrap x = x % 18446744073709551616 := by
  unfold IntKind.wrap
  simp [IntKind.bits, IntKind.signed]
theorem dig_add (k : Nat) : ∀ (j : Nat) (n : Int), dig (k + j) n = dig k (n / 256 ^ j) ++ dig j n
  | 0, n => by simp [dig]
  | j + 1, n => by
    rw [← Nat.add_assoc, dig, dig_add k j, dig, List.append_assoc, Int.ediv_ediv_of_nonneg (by omega), Int.pow_succ, Int.mul_comm 256]
theorem P8 : (256 : Int) ^ 8 = 18446744073709551616 := by decide
theorem idv_hi (a : Int) : (idv a).hi = a / 18446744073709551616 % 18446744073709551616 := by
  show num ((dig 16 a).take 8) = _
  rw [dig_add 8 8, List.take_left' (dig_length _ _), num_dig, P8]
theorem idv_lo (a : Int) : (idv a).lo = a % 18446744073709551616 := by
  show num ((dig 16 a).drop 8) = _
  rw [dig_add 8 8, List.drop_left' (dig_length _ _), num_dig, P8]
theorem two_idc (hi lo : Int) (hl : 0 ≤ lo ∧ lo < 18446744073709551616) : cellsI (dig 8 hi ++ dig 8 lo) = idc (hi * 18446744073709551616 + lo) := by
  rw [← cellsI_idc, dig_add 8 8, P8]
  have h1 : (hi * 18446744073709551616 + lo) / 18446744073709551616 = hi := by omega
  have h2 : dig 8 (hi * 18446744073709551616 + lo) = dig 8 lo := by
    apply dig_same
    rw [P8]
    omega
  rw [h1, h2]
def idRow (hi lo : Int) (k : Nat) : List SV := cellsI ((dig (8 - k) 0 ++ dig k hi) ++ (dig (8 - k) 0 ++ dig k lo))
theorem idRow_length (hi lo : Int) (k : Nat) (h : k ≤ 8) : (idRow hi lo k).length = 16 := by
  simp only [idRow, cellsI_length, List.length_append, dig_length]
  omega
theorem idRow_zero (hi lo : Int) : idRow hi lo 0 = idc 0 := by
  rw [← cellsI_idc]
  rfl
theorem idRow_flat (hi lo : Int) (k : Nat) : SV.flatL (idRow hi lo k) = true := cellsI_flat _
theorem idRow_set (hi lo : Int) (k : Nat) (h : k < 8) : splice (splice (idRow hi lo k) (7 - k) [.v (.int .u8 (hi / 256 ^ k % 256))]) (15 - k) [.v (.int .u8 (lo / 256 ^ k % 256))] = idRow hi lo (k + 1) := by
  unfold idRow
  have e1 : 8 - k = (7 - k) + 1 := by omega
  have e2 : 8 - (k + 1) = 7 - k := by omega
  rw [e1, e2, dig_zero, dig_head k hi, dig_head k lo]
  have h1 : (dig (7 - k) 0 ++ [0] ++ dig k hi) ++ (dig (7 - k) 0 ++ [0] ++ dig k lo) = dig (7 - k) 0 ++ 0 :: (dig k hi ++ (dig (7 - k) 0 ++ [0] ++ dig k lo)) := by simp
  rw [h1, cellsI_set _ _ _ _ _ (dig_length _ _)]
  have h2 : ∀ x : Int, dig (7 - k) 0 ++ x :: (dig k hi ++ (dig (7 - k) 0 ++ [0] ++ dig k lo)) = (dig (7 - k) 0 ++ x :: (dig k hi ++ dig (7 - k) 0)) ++ 0 :: dig k lo := by intro x; simp
  rw [h2, cellsI_set _ _ _ _ _ (by simp only [List.length_append, List.length_cons, dig_length]; omega)]
  congr 1
  simp
end Go.SL
namespace Go.Proofs
open Go Go.SL
set_option maxRecDepth 100000
theorem refID_id (hi lo : Int) (hh : 0 ≤ hi ∧ hi < 18446744073709551616) (hl : 0 ≤ lo ∧ lo < 18446744073709551616) : Pure Try.prog 131 [.v (.int .u64 hi), .v (.int .u64 lo)] (.agg (idc (hi * 18446744073709551616 + lo))) := by
  refine SCall.mk (fn := Try.f131) (by kernel_rfl) rfl (Nat.le_of_ble_eq_true (by kernel_rfl)) ?_
  refine Sem.go (k := 1000) ?_
  simp -dsimp (decide := true) (maxSteps := 1000000) (disch := first | omega | simp (decide := true) only [bdset_a, idc_one, idc_flat, idc_length, cellsI_length, cellsI_flat, idRow_flat, idRow_length]) only [brun_a, ↓brun_b, envOf, reduceIte, Nat.reduceEqDiff, Nat.reduceAdd, Nat.reduceSub, Nat.reduceMul, Nat.reduceBEq, Nat.reduceLeDiff, Nat.reduceLT, beq_self_eq_true, cond_true, cond_false, Int.reduceToNat, tab.u3, tab.s3, tab.a3, tab.u5, tab.s5, tab.a5, tab.u23, tab.s23, tab.a23, tab.u36, tab.s36, tab.a36, idc_part, idc_length, allocI, splice_idc]
  refine Sem.loop (ι := {k : Nat // k ≤ 8}) (fun k => ⟨27, 0, [(0, .v (.int .u64 (hi / 256 ^ k.1))), (1, .v (.int .u64 (lo / 256 ^ k.1))), (4, .ptr 0 0 0), (5, .ptr 1 0 0), (6, .v (.int .i64 (7 - (k.1 : Int))))],
    [some (.row ⟨16, 1, true, 23, fun _ => idc 0⟩), some (.row ⟨16, 1, true, 23, fun _ => idRow hi lo k.1⟩)]⟩) (fun k => 8 - k.1) ⟨0, by omega⟩ [0, 1] ?_ ?_
  · (refine Wk.ofC ?_; simp -dsimp (decide := true) (maxSteps := 1000000) (disch := first | omega | simp (decide := true) only [bdset_a, idc_one, idc_flat, idc_length, cellsI_length, cellsI_flat, idRow_flat, idRow_length]) only [brun_a, ↓brun_b, envOf, reduceIte, Nat.reduceEqDiff, Nat.reduceAdd, Nat.reduceSub, Nat.reduceMul, Nat.reduceBEq, Nat.reduceLeDiff, Nat.reduceLT, beq_self_eq_true, cond_true, cond_false, Int.reduceToNat, tab.u3, tab.s3, tab.a3, tab.u5, tab.s5, tab.a5, tab.u23, tab.s23, tab.a23, tab.u36, tab.s36, tab.a36, idc_part, idc_length, allocI, splice_idc, idRow_zero, Int.pow_zero, Int.ediv_one, Int.sub_zero, bwk_a, frz1, eq_self, implies_true, rho, ↓reduceIte, forall_const])
  · rintro ⟨k, hk⟩
    have hrl := idRow_length hi lo k hk
    refine Sem.go (k := 1000) ?_
    simp -dsimp (decide := true) (maxSteps := 1000000) (disch := first | omega | simp (decide := true) only [bdset_a, idc_one, idc_flat, idc_length, cellsI_length, cellsI_flat, idRow_flat, idRow_length]) only [brun_a, ↓brun_b, envOf, reduceIte, Nat.reduceEqDiff, Nat.reduceAdd, Nat.reduceSub, Nat.reduceMul, Nat.reduceBEq, Nat.reduceLeDiff, Nat.reduceLT, beq_self_eq_true, cond_true, cond_false, Int.reduceToNat, tab.u3, tab.s3, tab.a3, tab.u5, tab.s5, tab.a5, tab.u23, tab.s23, tab.a23, tab.u36, tab.s36, tab.a36, idc_part, idc_length, allocI, splice_idc]
    refine SCond.split (fun h => ?_) (fun h => ?_)
    · simp only [decide_eq_true_eq] at h
      have hk' : k < 8 := by omega
      have hw1 : IntKind.i64.wrap (8 + (7 - (k : Int))) = ((15 - k : Nat) : Int) := by rw [wrap_i64 _ (by omega)]; omega
      have hw2 : IntKind.i64.wrap (7 - (k : Int) - 1) = 7 - ((k + 1 : Nat) : Int) := by rw [wrap_i64 _ (by omega)]; omega
      have hset := idRow_set hi lo k hk'
      have hi7 : (7 - (k : Int)) = ((7 - k : Nat) : Int) := by omega
      have htn : (7 - (k : Int)).toNat = 7 - k := by omega
      have hstep : ∀ n : Int, 0 ≤ n ∧ n < 18446744073709551616 → IntKind.u64.wrap ((n / 256 ^ k).tdiv 256) = n / 256 ^ (k + 1) ∧ IntKind.u8.wrap ((n / 256 ^ k).tmod 256) = n / 256 ^ k % 256 := fun n hn => by
        have h1 : 0 ≤ n / 256 ^ k := Int.ediv_nonneg hn.1 (by have := pos256 k; omega)
        have h2 : n / 256 ^ k ≤ n := Int.ediv_le_self _ hn.1
        have h3 : n / 256 ^ (k + 1) = n / 256 ^ k / 256 := by
          rw [Int.pow_succ, Int.ediv_ediv_of_nonneg (by have := pos256 k; omega)]
        rw [h3, Int.tdiv_eq_ediv_of_nonneg h1, Int.tmod_eq_emod_of_nonneg h1]
        generalize n / 256 ^ k = q at *
        exact ⟨wrap_u64 _ (by omega), wrap_u8 _ (by omega)⟩
      obtain ⟨s1, s2⟩ := hstep hi hh
      obtain ⟨s3, s4⟩ := hstep lo hl
      simp -dsimp (decide := true) (maxSteps := 1000000) (disch := first | omega | simp (decide := true) only [bdset_a, idc_one, idc_flat, idc_length, cellsI_length, cellsI_flat, idRow_flat, idRow_length]) only [brun_a, ↓brun_b, envOf, reduceIte, Nat.reduceEqDiff, Nat.reduceAdd, Nat.reduceSub, Nat.reduceMul, Nat.reduceBEq, Nat.reduceLeDiff, Nat.reduceLT, beq_self_eq_true, cond_true, cond_false, Int.reduceToNat, tab.u3, tab.s3, tab.a3, tab.u5, tab.s5, tab.a5, tab.u23, tab.s23, tab.a23, tab.u36, tab.s36, tab.a36, idc_part, idc_length, allocI, splice_idc, hw1, hw2, htn, s1, s2, s3, s4, hset]
      refine And.intro (by omega) (And.intro (by omega) ⟨⟨k + 1, by omega⟩, [0, 1], ?_, by show 8 - (k + 1) < 8 - k; omega⟩)
      (refine Wk.ofC ?_; simp -dsimp (decide := true) (maxSteps := 1000000) (disch := first | omega | simp (decide := true) only [bdset_a, idc_one, idc_flat, idc_length, cellsI_length, cellsI_flat, idRow_flat, idRow_length]) only [brun_a, ↓brun_b, envOf, reduceIte, Nat.reduceEqDiff, Nat.reduceAdd, Nat.reduceSub, Nat.reduceMul, Nat.reduceBEq, Nat.reduceLeDiff, Nat.reduceLT, beq_self_eq_true, cond_true, cond_false, Int.reduceToNat, tab.u3, tab.s3, tab.a3, tab.u5, tab.s5, tab.a5, tab.u23, tab.s23, tab.a23, tab.u36, tab.s36, tab.a36, idc_part, idc_length, allocI, splice_idc, bwk_a, frz1, eq_self, implies_true, rho, ↓reduceIte, forall_const])
    · simp only [decide_eq_false_iff_not] at h
      obtain rfl : k = 8 := by omega
      have hf : idRow hi lo 8 = idc (hi * 18446744073709551616 + lo) := two_idc hi lo hl
      simp -dsimp (decide := true) (maxSteps := 1000000) (disch := first | omega | simp (decide := true) only [bdset_a, idc_one, idc_flat, idc_length, cellsI_length, cellsI_flat, idRow_flat, idRow_length]) only [brun_a, ↓brun_b, envOf, reduceIte, Nat.reduceEqDiff, Nat.reduceAdd, Nat.reduceSub, Nat.reduceMul, Nat.reduceBEq, Nat.reduceLeDiff, Nat.reduceLT, beq_self_eq_true, cond_true, cond_false, Int.reduceToNat, tab.u3, tab.s3, tab.a3, tab.u5, tab.s5, tab.a5, tab.u23, tab.s23, tab.a23, tab.u36, tab.s36, tab.a36, idc_part, idc_length, allocI, splice_idc, hf]
      refine SQ.answer (rs := [.cell 4 23]) rfl rfl ?_
      simp -dsimp (decide := true) (maxSteps := 1000000) (disch := first | omega | simp (decide := true) only [bdset_a, idc_one, idc_flat, idc_length, cellsI_length, cellsI_flat, idRow_flat, idRow_length]) only [brun_a, ↓brun_b, envOf, reduceIte, Nat.reduceEqDiff, Nat.reduceAdd, Nat.reduceSub, Nat.reduceMul, Nat.reduceBEq, Nat.reduceLeDiff, Nat.reduceLT, beq_self_eq_true, cond_true, cond_false, Int.reduceToNat, tab.u3, tab.s3, tab.a3, tab.u5, tab.s5, tab.a5, tab.u23, tab.s23, tab.a23, tab.u36, tab.s36, tab.a36, idc_part, idc_length, allocI, splice_idc, bwk_a, frz1, eq_self, implies_true, rho, ↓reduceIte, forall_const]
theorem wideN_calls (a : Int) : Pure Try.prog 128 [.agg (idc a)] (.tup [.v (.int .u64 (a / 18446744073709551616 % 18446744073709551616)), .v (.int .u64 (a % 18446744073709551616))]) := by
  have := wide_calls (idv a)
  rw [← idc_def, idv_hi, idv_lo] at this
  exact this
theorem refSub_calls (a b : Int) : Pure Try.prog 75 [.agg (idc a), .agg (idc b)] (.agg (idc (a - b))) := by
  refine SCall.mk (fn := Try.f75) (by kernel_rfl) rfl (Nat.le_of_ble_eq_true (by kernel_rfl)) ?_
  refine Sem.go (k := 1000) ?_
  simp -dsimp (decide := true) (maxSteps := 1000000) (disch := first | omega | simp (decide := true) only [bdset_a, idc_one, idc_flat, idc_length, cellsI_length, cellsI_flat, idRow_flat, idRow_length]) only [brun_a, ↓brun_b, envOf, reduceIte, Nat.reduceEqDiff, Nat.reduceAdd, Nat.reduceSub, Nat.reduceMul, Nat.reduceBEq, Nat.reduceLeDiff, Nat.reduceLT, beq_self_eq_true, cond_true, cond_false, Int.reduceToNat, tab.u5, tab.s5, tab.a5, tab.u23, tab.s23, tab.a23, tab.u36, tab.s36, tab.a36, idc_part, idc_length, allocI, splice_idc]
  refine SemOps.callq (k := 1000) cal.f128 (wideN_calls a) rfl rfl rfl rfl (by simp only [bflat_a, idc_flat, cellsI_flat, idRow_flat]) (by simp only [bflat_a, idc_flat, cellsI_flat, idRow_flat]) (by simp -dsimp (decide := true) (maxSteps := 1000000) (disch := first | omega | simp (decide := true) only [bdset_a, idc_one, idc_flat, idc_length, cellsI_length, cellsI_flat, idRow_flat, idRow_length]) only [brun_a, ↓brun_b, envOf, reduceIte, Nat.reduceEqDiff, Nat.reduceAdd, Nat.reduceSub, Nat.reduceMul, Nat.reduceBEq, Nat.reduceLeDiff, Nat.reduceLT, beq_self_eq_true, cond_true, cond_false, Int.reduceToNat, tab.u5, tab.s5, tab.a5, tab.u23, tab.s23, tab.a23, tab.u36, tab.s36, tab.a36]) ?_
  simp -dsimp (decide := true) (maxSteps := 1000000) (disch := first | omega | simp (decide := true) only [bdset_a, idc_one, idc_flat, idc_length, cellsI_length, cellsI_flat, idRow_flat, idRow_length]) only [brun_a, ↓brun_b, envOf, reduceIte, Nat.reduceEqDiff, Nat.reduceAdd, Nat.reduceSub, Nat.reduceMul, Nat.reduceBEq, Nat.reduceLeDiff, Nat.reduceLT, beq_self_eq_true, cond_true, cond_false, Int.reduceToNat, tab.u5, tab.s5, tab.a5, tab.u23, tab.s23, tab.a23, tab.u36, tab.s36, tab.a36, idc_part, idc_length, allocI, splice_idc]
  refine SemOps.callq (k := 1000) cal.f128 (wideN_calls b) rfl rfl rfl rfl (by simp only [bflat_a, idc_flat, cellsI_flat, idRow_flat]) (by simp only [bflat_a, idc_flat, cellsI_flat, idRow_flat]) (by simp -dsimp (decide := true) (maxSteps := 1000000) (disch := first | omega | simp (decide := true) only [bdset_a, idc_one, idc_flat, idc_length, cellsI_length, cellsI_flat, idRow_flat, idRow_length]) only [brun_a, ↓brun_b, envOf, reduceIte, Nat.reduceEqDiff, Nat.reduceAdd, Nat.reduceSub, Nat.reduceMul, Nat.reduceBEq, Nat.reduceLeDiff, Nat.reduceLT, beq_self_eq_true, cond_true, cond_false, Int.reduceToNat, tab.u5, tab.s5, tab.a5, tab.u23, tab.s23, tab.a23, tab.u36, tab.s36, tab.a36]) ?_
  simp -dsimp (decide := true) (maxSteps := 1000000) (disch := first | omega | simp (decide := true) only [bdset_a, idc_one, idc_flat, idc_length, cellsI_length, cellsI_flat, idRow_flat, idRow_length]) only [brun_a, ↓brun_b, envOf, reduceIte, Nat.reduceEqDiff, Nat.reduceAdd, Nat.reduceSub, Nat.reduceMul, Nat.reduceBEq, Nat.reduceLeDiff, Nat.reduceLT, beq_self_eq_true, cond_true, cond_false, Int.reduceToNat, tab.u5, tab.s5, tab.a5, tab.u23, tab.s23, tab.a23, tab.u36, tab.s36, tab.a36, idc_part, idc_length, allocI, splice_idc, wrap_u64_mod]
  refine SCond.split (fun h => ?_) (fun h => ?_)
  · simp -dsimp (decide := true) (maxSteps := 1000000) (disch := first | omega | simp (decide := true) only [bdset_a, idc_one, idc_flat, idc_length, cellsI_length, cellsI_flat, idRow_flat, idRow_length]) only [brun_a, ↓brun_b, envOf, reduceIte, Nat.reduceEqDiff, Nat.reduceAdd, Nat.reduceSub, Nat.reduceMul, Nat.reduceBEq, Nat.reduceLeDiff, Nat.reduceLT, beq_self_eq_true, cond_true, cond_false, Int.reduceToNat, tab.u5, tab.s5, tab.a5, tab.u23, tab.s23, tab.a23, tab.u36, tab.s36, tab.a36, idc_part, idc_length, allocI, splice_idc, wrap_u64_mod]
    refine SemOps.callq (k := 1000) cal.f131 (refID_id _ _ (by omega) (by omega)) rfl rfl rfl rfl (by simp only [bflat_a, idc_flat, cellsI_flat, idRow_flat]) (by simp only [bflat_a, idc_flat, cellsI_flat, idRow_flat]) (by simp -dsimp (decide := true) (maxSteps := 1000000) (disch := first | omega | simp (decide := true) only [bdset_a, idc_one, idc_flat, idc_length, cellsI_length, cellsI_flat, idRow_flat, idRow_length]) only [brun_a, ↓brun_b, envOf, reduceIte, Nat.reduceEqDiff, Nat.reduceAdd, Nat.reduceSub, Nat.reduceMul, Nat.reduceBEq, Nat.reduceLeDiff, Nat.reduceLT, beq_self_eq_true, cond_true, cond_false, Int.reduceToNat, tab.u5, tab.s5, tab.a5, tab.u23, tab.s23, tab.a23, tab.u36, tab.s36, tab.a36]) ?_
    simp -dsimp (decide := true) (maxSteps := 1000000) (disch := first | omega | simp (decide := true) only [bdset_a, idc_one, idc_flat, idc_length, cellsI_length, cellsI_flat, idRow_flat, idRow_length]) only [brun_a, ↓brun_b, envOf, reduceIte, Nat.reduceEqDiff, Nat.reduceAdd, Nat.reduceSub, Nat.reduceMul, Nat.reduceBEq, Nat.reduceLeDiff, Nat.reduceLT, beq_self_eq_true, cond_true, cond_false, Int.reduceToNat, tab.u5, tab.s5, tab.a5, tab.u23, tab.s23, tab.a23, tab.u36, tab.s36, tab.a36, idc_part, idc_length, allocI, splice_idc]
    simp only [decide_eq_true_eq] at h
    have hs : idc (((a / 18446744073709551616 % 18446744073709551616 - b / 18446744073709551616 % 18446744073709551616) % 18446744073709551616 - 1) % 18446744073709551616 * 18446744073709551616 + (a % 18446744073709551616 - b % 18446744073709551616) % 18446744073709551616) = idc (a - b) := idc_same _ _ (by rw [md_def, md_def]; omega)
    refine SQ.answer (rs := [.cell 4 23]) rfl rfl ?_
    simp -dsimp (decide := true) (maxSteps := 1000000) (disch := first | omega | simp (decide := true) only [bdset_a, idc_one, idc_flat, idc_length, cellsI_length, cellsI_flat, idRow_flat, idRow_length]) only [brun_a, ↓brun_b, envOf, reduceIte, Nat.reduceEqDiff, Nat.reduceAdd, Nat.reduceSub, Nat.reduceMul, Nat.reduceBEq, Nat.reduceLeDiff, Nat.reduceLT, beq_self_eq_true, cond_true, cond_false, Int.reduceToNat, tab.u5, tab.s5, tab.a5, tab.u23, tab.s23, tab.a23, tab.u36, tab.s36, tab.a36, idc_part, idc_length, allocI, splice_idc, hs, bwk_a, frz1, eq_self, implies_true, rho, ↓reduceIte, forall_const]
  · simp -dsimp (decide := true) (maxSteps := 1000000) (disch := first | omega | simp (decide := true) only [bdset_a, idc_one, idc_flat, idc_length, cellsI_length, cellsI_flat, idRow_flat, idRow_length]) only [brun_a, ↓brun_b, envOf, reduceIte, Nat.reduceEqDiff, Nat.reduceAdd, Nat.reduceSub, Nat.reduceMul, Nat.reduceBEq, Nat.reduceLeDiff, Nat.reduceLT, beq_self_eq_true, cond_true, cond_false, Int.reduceToNat, tab.u5, tab.s5, tab.a5, tab.u23, tab.s23, tab.a23, tab.u36, tab.s36, tab.a36, idc_part, idc_length, allocI, splice_idc, wrap_u64_mod]
    refine SemOps.callq (k := 1000) cal.f131 (refID_id _ _ (by omega) (by omega)) rfl rfl rfl rfl (by simp only [bflat_a, idc_flat, cellsI_flat, idRow_flat]) (by simp only [bflat_a, idc_flat, cellsI_flat, idRow_flat]) (by simp -dsimp (decide := true) (maxSteps := 1000000) (disch := first | omega | simp (decide := true) only [bdset_a, idc_one, idc_flat, idc_length, cellsI_length, cellsI_flat, idRow_flat, idRow_length]) only [brun_a, ↓brun_b, envOf, reduceIte, Nat.reduceEqDiff, Nat.reduceAdd, Nat.reduceSub, Nat.reduceMul, Nat.reduceBEq, Nat.reduceLeDiff, Nat.reduceLT, beq_self_eq_true, cond_true, cond_false, Int.reduceToNat, tab.u5, tab.s5, tab.a5, tab.u23, tab.s23, tab.a23, tab.u36, tab.s36, tab.a36]) ?_
    simp -dsimp (decide := true) (maxSteps := 1000000) (disch := first | omega | simp (decide := true) only [bdset_a, idc_one, idc_flat, idc_length, cellsI_length, cellsI_flat, idRow_flat, idRow_length]) only [brun_a, ↓brun_b, envOf, reduceIte, Nat.reduceEqDiff, Nat.reduceAdd, Nat.reduceSub, Nat.reduceMul, Nat.reduceBEq, Nat.reduceLeDiff, Nat.reduceLT, beq_self_eq_true, cond_true, cond_false, Int.reduceToNat, tab.u5, tab.s5, tab.a5, tab.u23, tab.s23, tab.a23, tab.u36, tab.s36, tab.a36, idc_part, idc_length, allocI, splice_idc]
    simp only [decide_eq_false_iff_not] at h
    have hs : idc ((a / 18446744073709551616 % 18446744073709551616 - b / 18446744073709551616 % 18446744073709551616) % 18446744073709551616 * 18446744073709551616 + (a % 18446744073709551616 - b % 18446744073709551616) % 18446744073709551616) = idc (a - b) := idc_same _ _ (by rw [md_def, md_def]; omega)
    refine SQ.answer (rs := [.cell 4 23]) rfl rfl ?_
    simp -dsimp (decide := true) (maxSteps := 1000000) (disch := first | omega | simp (decide := true) only [bdset_a, idc_one, idc_flat, idc_length, cellsI_length, cellsI_flat, idRow_flat, idRow_length]) only [brun_a, ↓brun_b, envOf, reduceIte, Nat.reduceEqDiff, Nat.reduceAdd, Nat.reduceSub, Nat.reduceMul, Nat.reduceBEq, Nat.reduceLeDiff, Nat.reduceLT, beq_self_eq_true, cond_true, cond_false, Int.reduceToNat, tab.u5, tab.s5, tab.a5, tab.u23, tab.s23, tab.a23, tab.u36, tab.s36, tab.a36, idc_part, idc_length, allocI, splice_idc, hs, bwk_a, frz1, eq_self, implies_true, rho, ↓reduceIte, forall_const]
theorem refCmp_calls (a b : Int) : Pure Try.prog 73 [.agg (idc a), .agg (idc b)] (.v (.int .i64 (cmpM a b))) := by
  refine SCall.mk (fn := Try.f73) (by kernel_rfl) rfl (Nat.le_of_ble_eq_true (by kernel_rfl)) ?_
  refine Sem.go (k := 1000) ?_
  simp -dsimp (decide := true) (maxSteps := 1000000) (disch := first | omega | simp (decide := true) only [bdset_a, idc_one, idc_flat, idc_length, cellsI_length, cellsI_flat, idRow_flat, idRow_length]) only [brun_a, ↓brun_b, envOf, reduceIte, Nat.reduceEqDiff, Nat.reduceAdd, Nat.reduceSub, Nat.reduceMul, Nat.reduceBEq, Nat.reduceLeDiff, Nat.reduceLT, beq_self_eq_true, cond_true, cond_false, Int.reduceToNat, tab.u5, tab.s5, tab.a5, tab.u23, tab.s23, tab.a23, idc_part, idc_length, allocI, splice_idc]
  refine SemOps.callq (k := 1000) cal.f41 (lessN_calls a b) rfl rfl rfl rfl (by simp only [bflat_a, idc_flat, cellsI_flat, idRow_flat]) (by simp only [bflat_a, idc_flat, cellsI_flat, idRow_flat]) (by simp -dsimp (decide := true) (maxSteps := 1000000) (disch := first | omega | simp (decide := true) only [bdset_a, idc_one, idc_flat, idc_length, cellsI_length, cellsI_flat, idRow_flat, idRow_length]) only [brun_a, ↓brun_b, envOf, reduceIte, Nat.reduceEqDiff, Nat.reduceAdd, Nat.reduceSub, Nat.reduceMul, Nat.reduceBEq, Nat.reduceLeDiff, Nat.reduceLT, beq_self_eq_true, cond_true, cond_false, Int.reduceToNat, tab.u5, tab.s5, tab.a5, tab.u23, tab.s23, tab.a23]) ?_
  simp -dsimp (decide := true) (maxSteps := 1000000) (disch := first | omega | simp (decide := true) only [bdset_a, idc_one, idc_flat, idc_length, cellsI_length, cellsI_flat, idRow_flat, idRow_length]) only [brun_a, ↓brun_b, envOf, reduceIte, Nat.reduceEqDiff, Nat.reduceAdd, Nat.reduceSub, Nat.reduceMul, Nat.reduceBEq, Nat.reduceLeDiff, Nat.reduceLT, beq_self_eq_true, cond_true, cond_false, Int.reduceToNat, tab.u5, tab.s5, tab.a5, tab.u23, tab.s23, tab.a23, idc_part, idc_length, allocI, splice_idc]
  refine SCond.split (fun h => ?_) (fun h => ?_)
  · simp -dsimp (decide := true) (maxSteps := 1000000) (disch := first | omega | simp (decide := true) only [bdset_a, idc_one, idc_flat, idc_length, cellsI_length, cellsI_flat, idRow_flat, idRow_length]) only [brun_a, ↓brun_b, envOf, reduceIte, Nat.reduceEqDiff, Nat.reduceAdd, Nat.reduceSub, Nat.reduceMul, Nat.reduceBEq, Nat.reduceLeDiff, Nat.reduceLT, beq_self_eq_true, cond_true, cond_false, Int.reduceToNat, tab.u5, tab.s5, tab.a5, tab.u23, tab.s23, tab.a23, idc_part, idc_length, allocI, splice_idc]
    simp only [decide_eq_true_eq] at h
    refine SQ.answer (rs := [.tmp 4]) rfl rfl ?_
    simp -dsimp (decide := true) (maxSteps := 1000000) (disch := first | omega | simp (decide := true) only [bdset_a, idc_one, idc_flat, idc_length, cellsI_length, cellsI_flat, idRow_flat, idRow_length]) only [brun_a, ↓brun_b, envOf, reduceIte, Nat.reduceEqDiff, Nat.reduceAdd, Nat.reduceSub, Nat.reduceMul, Nat.reduceBEq, Nat.reduceLeDiff, Nat.reduceLT, beq_self_eq_true, cond_true, cond_false, Int.reduceToNat, tab.u5, tab.s5, tab.a5, tab.u23, tab.s23, tab.a23, cmpM, if_pos h, bwk_a, frz1, eq_self, implies_true, rho, ↓reduceIte, forall_const]
  · simp only [decide_eq_false_iff_not] at h
    simp -dsimp (decide := true) (maxSteps := 1000000) (disch := first | omega | simp (decide := true) only [bdset_a, idc_one, idc_flat, idc_length, cellsI_length, cellsI_flat, idRow_flat, idRow_length]) only [brun_a, ↓brun_b, envOf, reduceIte, Nat.reduceEqDiff, Nat.reduceAdd, Nat.reduceSub, Nat.reduceMul, Nat.reduceBEq, Nat.reduceLeDiff, Nat.reduceLT, beq_self_eq_true, cond_true, cond_false, Int.reduceToNat, tab.u5, tab.s5, tab.a5, tab.u23, tab.s23, tab.a23, idc_part, idc_length, allocI, splice_idc]
    refine SemOps.callq (k := 1000) cal.f41 (lessN_calls b a) rfl rfl rfl rfl (by simp only [bflat_a, idc_flat, cellsI_flat, idRow_flat]) (by simp only [bflat_a, idc_flat, cellsI_flat, idRow_flat]) (by simp -dsimp (decide := true) (maxSteps := 1000000) (disch := first | omega | simp (decide := true) only [bdset_a, idc_one, idc_flat, idc_length, cellsI_length, cellsI_flat, idRow_flat, idRow_length]) only [brun_a, ↓brun_b, envOf, reduceIte, Nat.reduceEqDiff, Nat.reduceAdd, Nat.reduceSub, Nat.reduceMul, Nat.reduceBEq, Nat.reduceLeDiff, Nat.reduceLT, beq_self_eq_true, cond_true, cond_false, Int.reduceToNat, tab.u5, tab.s5, tab.a5, tab.u23, tab.s23, tab.a23]) ?_
    simp -dsimp (decide := true) (maxSteps := 1000000) (disch := first | omega | simp (decide := true) only [bdset_a, idc_one, idc_flat, idc_length, cellsI_length, cellsI_flat, idRow_flat, idRow_length]) only [brun_a, ↓brun_b, envOf, reduceIte, Nat.reduceEqDiff, Nat.reduceAdd, Nat.reduceSub, Nat.reduceMul, Nat.reduceBEq, Nat.reduceLeDiff, Nat.reduceLT, beq_self_eq_true, cond_true, cond_false, Int.reduceToNat, tab.u5, tab.s5, tab.a5, tab.u23, tab.s23, tab.a23, idc_part, idc_length, allocI, splice_idc]
    refine SCond.split (fun h2 => ?_) (fun h2 => ?_)
    · simp -dsimp (decide := true) (maxSteps := 1000000) (disch := first | omega | simp (decide := true) only [bdset_a, idc_one, idc_flat, idc_length, cellsI_length, cellsI_flat, idRow_flat, idRow_length]) only [brun_a, ↓brun_b, envOf, reduceIte, Nat.reduceEqDiff, Nat.reduceAdd, Nat.reduceSub, Nat.reduceMul, Nat.reduceBEq, Nat.reduceLeDiff, Nat.reduceLT, beq_self_eq_true, cond_true, cond_false, Int.reduceToNat, tab.u5, tab.s5, tab.a5, tab.u23, tab.s23, tab.a23, idc_part, idc_length, allocI, splice_idc]
      simp only [decide_eq_true_eq] at h2
      refine SQ.answer (rs := [.tmp 4]) rfl rfl ?_
      simp -dsimp (decide := true) (maxSteps := 1000000) (disch := first | omega | simp (decide := true) only [bdset_a, idc_one, idc_flat, idc_length, cellsI_length, cellsI_flat, idRow_flat, idRow_length]) only [brun_a, ↓brun_b, envOf, reduceIte, Nat.reduceEqDiff, Nat.reduceAdd, Nat.reduceSub, Nat.reduceMul, Nat.reduceBEq, Nat.reduceLeDiff, Nat.reduceLT, beq_self_eq_true, cond_true, cond_false, Int.reduceToNat, tab.u5, tab.s5, tab.a5, tab.u23, tab.s23, tab.a23, cmpM, if_pos h2, if_neg h, bwk_a, frz1, eq_self, implies_true, rho, ↓reduceIte, forall_const]
    · simp -dsimp (decide := true) (maxSteps := 1000000) (disch := first | omega | simp (decide := true) only [bdset_a, idc_one, idc_flat, idc_length, cellsI_length, cellsI_flat, idRow_flat, idRow_length]) only [brun_a, ↓brun_b, envOf, reduceIte, Nat.reduceEqDiff, Nat.reduceAdd, Nat.reduceSub, Nat.reduceMul, Nat.reduceBEq, Nat.reduceLeDiff, Nat.reduceLT, beq_self_eq_true, cond_true, cond_false, Int.reduceToNat, tab.u5, tab.s5, tab.a5, tab.u23, tab.s23, tab.a23, idc_part, idc_length, allocI, splice_idc]
      simp only [decide_eq_false_iff_not] at h2
      refine SQ.answer (rs := [.tmp 4]) rfl rfl ?_
      simp -dsimp (decide := true) (maxSteps := 1000000) (disch := first | omega | simp (decide := true) only [bdset_a, idc_one, idc_flat, idc_length, cellsI_length, cellsI_flat, idRow_flat, idRow_length]) only [brun_a, ↓brun_b, envOf, reduceIte, Nat.reduceEqDiff, Nat.reduceAdd, Nat.reduceSub, Nat.reduceMul, Nat.reduceBEq, Nat.reduceLeDiff, Nat.reduceLT, beq_self_eq_true, cond_true, cond_false, Int.reduceToNat, tab.u5, tab.s5, tab.a5, tab.u23, tab.s23, tab.a23, cmpM, if_neg h2, if_neg h, bwk_a, frz1, eq_self, implies_true, rho, ↓reduceIte, forall_const]
end Go.Proofs
