/- Numbers and texts put as the document says: annuletref03.Num, Text. -/
import Derived.Test.YtheodenjjaoncaaWireO
set_option linter.unusedVariables false
set_option linter.unusedSimpArgs false
namespace Go.SL
open Go
/-- The last so many bytes, the lowest first. -/
def lowd (n k : Nat) : List UInt8 := (List.range k).map fun j => UInt8.ofNat (n / 256 ^ j)
theorem lowd_length (n k : Nat) : (lowd n k).length = k := by simp [lowd]
theorem lowd_zero (n : Nat) : lowd n 0 = [] := Eq.trans rfl rfl
theorem lowd_succ (n k : Nat) : lowd n (k + 1) = lowd n k ++ [UInt8.ofNat (n / 256 ^ k)] := by simp [lowd, List.range_succ]
theorem lowd_getD (n w i : Nat) (h : i < w) : (lowd n w).getD (w - 1 - i) 0 = byteAt w n i := by
  rw [List.getD_eq_getElem?_getD, lowd, List.getElem?_map, List.getElem?_range (by omega)]
  rfl
end Go.SL
namespace Go.Proofs
open Go Go.SL
set_option maxRecDepth 100000
theorem num_owns (n : Nat) (hn : n < 18446744073709551616) : Owns Try.prog 45 [.v (.int .u64 (n : Int))] 1 (form n).length 5 (brow (form n)) := by
  have hw8 := wide_le8 n hn
  have hfl := form_length n
  refine SCall.mk (fn := Try.f45) (by kernel_rfl) rfl (Nat.le_of_ble_eq_true (by kernel_rfl)) ?_
  refine Sem.go (k := 1000) ?_
  simp -dsimp (decide := true) (maxSteps := 1000000) (disch := first | omega | simp (decide := true) only [bdset_a, nres.flat, tres.flat, ires.flat, urows.flat, urows_length, brow_len, urow_len, brow_flat, trows_flat, trows_length, trow_len]) only [brun_a, ↓brun_b, envOf, reduceIte, Nat.reduceEqDiff, Nat.reduceAdd, Nat.reduceSub, Nat.reduceMul, Nat.reduceBEq, Nat.reduceLeDiff, Nat.reduceLT, beq_self_eq_true, cond_true, cond_false, Int.reduceToNat, tab.u3, tab.s3, tab.a3, tab.u5, tab.s5, tab.a5, tab.u35, tab.s35, tab.a35, tab.u36, tab.s36, tab.a36, brow_len, brow_cell, brows_at, urows_length, urows_at, urow_cell, urow_len, trows_length, trows_at, trow_cell, trow_len]
  refine Sem.ghost 3 1 5 rfl ?_
  refine Sem.cutW [_, _] ⟨35, 0, [(3, .slc 0 0 (wide n))], [some (.row ⟨1, wide n, true, 5, brow (lowd n (wide n))⟩)]⟩ ?_ ?_
  · refine Sem.loop (ι := {k : Nat // k ≤ wide n}) (fun k => ⟨35, 0, [(0, .v (.int .u64 ((n / 256 ^ k.1 : Nat) : Int))), (3, .slc 0 0 k.1)], [some (.row ⟨1, k.1, true, 5, brow (lowd n k.1)⟩)]⟩) (fun k => wide n - k.1) ⟨0, by omega⟩ [0] ?_ ?_
    · (refine Wk.ofC ?_; simp -dsimp (decide := true) (maxSteps := 1000000) (disch := first | omega | simp (decide := true) only [bdset_a, nres.flat, tres.flat, ires.flat, urows.flat, urows_length, brow_len, urow_len, brow_flat, trows_flat, trows_length, trow_len]) only [brun_a, ↓brun_b, envOf, reduceIte, Nat.reduceEqDiff, Nat.reduceAdd, Nat.reduceSub, Nat.reduceMul, Nat.reduceBEq, Nat.reduceLeDiff, Nat.reduceLT, beq_self_eq_true, cond_true, cond_false, Int.reduceToNat, tab.u3, tab.s3, tab.a3, tab.u5, tab.s5, tab.a5, tab.u35, tab.s35, tab.a35, tab.u36, tab.s36, tab.a36, brow_len, brow_cell, brows_at, urows_length, urows_at, urow_cell, urow_len, trows_length, trows_at, trow_cell, trow_len, lowd_zero, Nat.pow_zero, Nat.div_one, bwk_a, frz1, eq_self, implies_true, rho, ↓reduceIte, forall_const])
    · rintro ⟨k, hk⟩
      refine Sem.go (k := 1000) ?_
      simp -dsimp (decide := true) (maxSteps := 1000000) (disch := first | omega | simp (decide := true) only [bdset_a, nres.flat, tres.flat, ires.flat, urows.flat, urows_length, brow_len, urow_len, brow_flat, trows_flat, trows_length, trow_len]) only [brun_a, ↓brun_b, envOf, reduceIte, Nat.reduceEqDiff, Nat.reduceAdd, Nat.reduceSub, Nat.reduceMul, Nat.reduceBEq, Nat.reduceLeDiff, Nat.reduceLT, beq_self_eq_true, cond_true, cond_false, Int.reduceToNat, tab.u3, tab.s3, tab.a3, tab.u5, tab.s5, tab.a5, tab.u35, tab.s35, tab.a35, tab.u36, tab.s36, tab.a36, brow_len, brow_cell, brows_at, urows_length, urows_at, urow_cell, urow_len, trows_length, trows_at, trow_cell, trow_len]
      refine SCond.split (fun h => ?_) (fun h => ?_)
      · have hpos : 0 < n / 256 ^ k := by simp only [decide_eq_true_eq] at h; omega
        have hk' : k < wide n := (wide_gt n k).2 (Nat.div_pos_iff.1 hpos).2
        have hle : n / 256 ^ k ≤ n := Nat.div_le_self _ _
        have hstep : n / 256 ^ (k + 1) = n / 256 ^ k / 256 := by rw [Nat.pow_succ, Nat.div_div_eq_div_mul]
        have hsu := lowd_succ n k
        have hlk := lowd_length n k
        generalize n / 256 ^ k = m at *
        have hb : IntKind.u8.wrap ((m : Int).tmod 256) = ((UInt8.ofNat m).toNat : Int) := by
          rw [Int.tmod_eq_emod_of_nonneg (by omega), wrap_u8 _ (by omega), UInt8.toNat_ofNat']
          omega
        have hq : IntKind.u64.wrap ((m : Int).tdiv 256) = ((m / 256 : Nat) : Int) := by
          rw [Int.tdiv_eq_ediv_of_nonneg (by omega), wrap_u64 _ (by omega)]
          omega
        simp -dsimp (decide := true) (maxSteps := 1000000) (disch := first | omega | simp (decide := true) only [bdset_a, nres.flat, tres.flat, ires.flat, urows.flat, urows_length, brow_len, urow_len, brow_flat, trows_flat, trows_length, trow_len]) only [brun_a, ↓brun_b, envOf, reduceIte, Nat.reduceEqDiff, Nat.reduceAdd, Nat.reduceSub, Nat.reduceMul, Nat.reduceBEq, Nat.reduceLeDiff, Nat.reduceLT, beq_self_eq_true, cond_true, cond_false, Int.reduceToNat, tab.u3, tab.s3, tab.a3, tab.u5, tab.s5, tab.a5, tab.u35, tab.s35, tab.a35, tab.u36, tab.s36, tab.a36, brow_len, brow_cell, brows_at, urows_length, urows_at, urow_cell, urow_len, trows_length, trows_at, trow_cell, trow_len, hb, hq, bs35, sapp1_sl el5]
        refine And.intro (by omega) ⟨⟨k + 1, by omega⟩, [2], ?_, by show wide n - (k + 1) < wide n - k; omega⟩
        (refine Wk.ofC ?_; simp -dsimp (decide := true) (maxSteps := 1000000) (disch := first | omega | simp (decide := true) only [bdset_a, nres.flat, tres.flat, ires.flat, urows.flat, urows_length, brow_len, urow_len, brow_flat, trows_flat, trows_length, trow_len]) only [brun_a, ↓brun_b, envOf, reduceIte, Nat.reduceEqDiff, Nat.reduceAdd, Nat.reduceSub, Nat.reduceMul, Nat.reduceBEq, Nat.reduceLeDiff, Nat.reduceLT, beq_self_eq_true, cond_true, cond_false, Int.reduceToNat, tab.u3, tab.s3, tab.a3, tab.u5, tab.s5, tab.a5, tab.u35, tab.s35, tab.a35, tab.u36, tab.s36, tab.a36, brow_len, brow_cell, brows_at, urows_length, urows_at, urow_cell, urow_len, trows_length, trows_at, trow_cell, trow_len, hstep, hsu, bwk_a, frz1, eq_self, implies_true, rho, ↓reduceIte, forall_const])
        intro e he
        exact ent_brow_app hlk (fun i h => one_brow _ i h) he
      · simp -dsimp (decide := true) (maxSteps := 1000000) (disch := first | omega | simp (decide := true) only [bdset_a, nres.flat, tres.flat, ires.flat, urows.flat, urows_length, brow_len, urow_len, brow_flat, trows_flat, trows_length, trow_len]) only [brun_a, ↓brun_b, envOf, reduceIte, Nat.reduceEqDiff, Nat.reduceAdd, Nat.reduceSub, Nat.reduceMul, Nat.reduceBEq, Nat.reduceLeDiff, Nat.reduceLT, beq_self_eq_true, cond_true, cond_false, Int.reduceToNat, tab.u3, tab.s3, tab.a3, tab.u5, tab.s5, tab.a5, tab.u35, tab.s35, tab.a35, tab.u36, tab.s36, tab.a36, brow_len, brow_cell, brows_at, urows_length, urows_at, urow_cell, urow_len, trows_length, trows_at, trow_cell, trow_len]
        simp only [decide_eq_false_iff_not] at h
        have hk' : ¬ k < wide n := fun h2 => by
          have := Nat.div_pos ((wide_gt n k).1 h2) (Nat.pow_pos (by omega : 0 < 256))
          omega
        obtain rfl : k = wide n := by omega
        refine ⟨[0], ?_⟩
        (refine Wk.ofC ?_; simp -dsimp (decide := true) (maxSteps := 1000000) (disch := first | omega | simp (decide := true) only [bdset_a, nres.flat, tres.flat, ires.flat, urows.flat, urows_length, brow_len, urow_len, brow_flat, trows_flat, trows_length, trow_len]) only [brun_a, ↓brun_b, envOf, reduceIte, Nat.reduceEqDiff, Nat.reduceAdd, Nat.reduceSub, Nat.reduceMul, Nat.reduceBEq, Nat.reduceLeDiff, Nat.reduceLT, beq_self_eq_true, cond_true, cond_false, Int.reduceToNat, tab.u3, tab.s3, tab.a3, tab.u5, tab.s5, tab.a5, tab.u35, tab.s35, tab.a35, tab.u36, tab.s36, tab.a36, brow_len, brow_cell, brows_at, urows_length, urows_at, urow_cell, urow_len, trows_length, trows_at, trow_cell, trow_len, bwk_a, frz1, eq_self, implies_true, rho, ↓reduceIte, forall_const])
  · refine Sem.go (k := 1000) ?_
    have hw1 := wrap_u8_nat (wide n)
    have hw2 : IntKind.i64.wrap ((wide n : Int) - 1) = (wide n : Int) - 1 := wrap_i64 _ (by omega)
    simp -dsimp (decide := true) (maxSteps := 1000000) (disch := first | omega | simp (decide := true) only [bdset_a, nres.flat, tres.flat, ires.flat, urows.flat, urows_length, brow_len, urow_len, brow_flat, trows_flat, trows_length, trow_len]) only [brun_a, ↓brun_b, envOf, reduceIte, Nat.reduceEqDiff, Nat.reduceAdd, Nat.reduceSub, Nat.reduceMul, Nat.reduceBEq, Nat.reduceLeDiff, Nat.reduceLT, beq_self_eq_true, cond_true, cond_false, Int.reduceToNat, tab.u3, tab.s3, tab.a3, tab.u5, tab.s5, tab.a5, tab.u35, tab.s35, tab.a35, tab.u36, tab.s36, tab.a36, brow_len, brow_cell, brows_at, urows_length, urows_at, urow_cell, urow_len, trows_length, trows_at, trow_cell, trow_len, hw1, hw2, bs35, sapp1_sl el5]
    refine Sem.loop (ι := {m : Nat // m ≤ wide n}) (fun m => ⟨35, 0, [(3, .slc 0 0 (wide n)), (4, .slc 1 0 (1 + m.1)), (5, .v (.int .i64 ((wide n : Int) - 1 - (m.1 : Int))))], [some (.row ⟨1, wide n, true, 5, brow (lowd n (wide n))⟩), some (.row ⟨1, 1 + m.1, true, 5, brow (UInt8.ofNat (wide n) :: (bigEnd (wide n) n).take m.1)⟩)]⟩) (fun m => wide n - m.1) ⟨0, by omega⟩ [0, 1] ?_ ?_
    · (refine Wk.ofC ?_; simp -dsimp (decide := true) (maxSteps := 1000000) (disch := first | omega | simp (decide := true) only [bdset_a, nres.flat, tres.flat, ires.flat, urows.flat, urows_length, brow_len, urow_len, brow_flat, trows_flat, trows_length, trow_len]) only [brun_a, ↓brun_b, envOf, reduceIte, Nat.reduceEqDiff, Nat.reduceAdd, Nat.reduceSub, Nat.reduceMul, Nat.reduceBEq, Nat.reduceLeDiff, Nat.reduceLT, beq_self_eq_true, cond_true, cond_false, Int.reduceToNat, tab.u3, tab.s3, tab.a3, tab.u5, tab.s5, tab.a5, tab.u35, tab.s35, tab.a35, tab.u36, tab.s36, tab.a36, brow_len, brow_cell, brows_at, urows_length, urows_at, urow_cell, urow_len, trows_length, trows_at, trow_cell, trow_len, List.take_zero, bwk_a, frz1, eq_self, implies_true, rho, ↓reduceIte, forall_const])
      refine And.intro (by rw [Int.sub_zero]) fun e he => ?_
      rw [one_brow _ e (by simpa using he)]
      exact EntL.self rfl
    · rintro ⟨m, hm⟩
      refine Sem.go (k := 1000) ?_
      simp -dsimp (decide := true) (maxSteps := 1000000) (disch := first | omega | simp (decide := true) only [bdset_a, nres.flat, tres.flat, ires.flat, urows.flat, urows_length, brow_len, urow_len, brow_flat, trows_flat, trows_length, trow_len]) only [brun_a, ↓brun_b, envOf, reduceIte, Nat.reduceEqDiff, Nat.reduceAdd, Nat.reduceSub, Nat.reduceMul, Nat.reduceBEq, Nat.reduceLeDiff, Nat.reduceLT, beq_self_eq_true, cond_true, cond_false, Int.reduceToNat, tab.u3, tab.s3, tab.a3, tab.u5, tab.s5, tab.a5, tab.u35, tab.s35, tab.a35, tab.u36, tab.s36, tab.a36, brow_len, brow_cell, brows_at, urows_length, urows_at, urow_cell, urow_len, trows_length, trows_at, trow_cell, trow_len]
      refine SCond.split (fun h => ?_) (fun h => ?_)
      · have hm' : m < wide n := by simp only [decide_eq_true_eq] at h; omega
        have hi : (wide n : Int) - 1 - (m : Int) = ((wide n - 1 - m : Nat) : Int) := by omega
        have hw3 : IntKind.i64.wrap (((wide n - 1 - m : Nat) : Int) - 1) = (wide n : Int) - 1 - ((m + 1 : Nat) : Int) := by rw [wrap_i64 _ (by omega)]; omega
        have hgd := lowd_getD n (wide n) m hm'
        have hbt := bigEnd_take (wide n) n m hm'
        simp -dsimp (decide := true) (maxSteps := 1000000) (disch := first | omega | simp (decide := true) only [bdset_a, nres.flat, tres.flat, ires.flat, urows.flat, urows_length, brow_len, urow_len, brow_flat, trows_flat, trows_length, trow_len]) only [brun_a, ↓brun_b, envOf, reduceIte, Nat.reduceEqDiff, Nat.reduceAdd, Nat.reduceSub, Nat.reduceMul, Nat.reduceBEq, Nat.reduceLeDiff, Nat.reduceLT, beq_self_eq_true, cond_true, cond_false, Int.reduceToNat, tab.u3, tab.s3, tab.a3, tab.u5, tab.s5, tab.a5, tab.u35, tab.s35, tab.a35, tab.u36, tab.s36, tab.a36, brow_len, brow_cell, brows_at, urows_length, urows_at, urow_cell, urow_len, trows_length, trows_at, trow_cell, trow_len, hi, hw3, hgd, bs35, sapp1_sl el5]
        have hrow : UInt8.ofNat (wide n) :: (bigEnd (wide n) n).take (m + 1) = (UInt8.ofNat (wide n) :: (bigEnd (wide n) n).take m) ++ [byteAt (wide n) n m] := by rw [hbt]; rfl
        have hrl : (UInt8.ofNat (wide n) :: (bigEnd (wide n) n).take m).length = 1 + m := by rw [List.length_cons, List.length_take, bigEnd_length]; omega
        refine And.intro (by omega) (And.intro (by omega) (And.intro (by omega) ⟨⟨m + 1, hm'⟩, [0, 3], ?_, by show wide n - (m + 1) < wide n - m; omega⟩))
        (refine Wk.ofC ?_; simp -dsimp (decide := true) (maxSteps := 1000000) (disch := first | omega | simp (decide := true) only [bdset_a, nres.flat, tres.flat, ires.flat, urows.flat, urows_length, brow_len, urow_len, brow_flat, trows_flat, trows_length, trow_len]) only [brun_a, ↓brun_b, envOf, reduceIte, Nat.reduceEqDiff, Nat.reduceAdd, Nat.reduceSub, Nat.reduceMul, Nat.reduceBEq, Nat.reduceLeDiff, Nat.reduceLT, beq_self_eq_true, cond_true, cond_false, Int.reduceToNat, tab.u3, tab.s3, tab.a3, tab.u5, tab.s5, tab.a5, tab.u35, tab.s35, tab.a35, tab.u36, tab.s36, tab.a36, brow_len, brow_cell, brows_at, urows_length, urows_at, urow_cell, urow_len, trows_length, trows_at, trow_cell, trow_len, hrow, bwk_a, frz1, eq_self, implies_true, rho, ↓reduceIte, forall_const])
        refine And.intro (by omega) (And.intro (by omega) fun e he => ?_)
        exact ent_brow_app hrl (fun i h => one_brow _ i h) he
      · simp -dsimp (decide := true) (maxSteps := 1000000) (disch := first | omega | simp (decide := true) only [bdset_a, nres.flat, tres.flat, ires.flat, urows.flat, urows_length, brow_len, urow_len, brow_flat, trows_flat, trows_length, trow_len]) only [brun_a, ↓brun_b, envOf, reduceIte, Nat.reduceEqDiff, Nat.reduceAdd, Nat.reduceSub, Nat.reduceMul, Nat.reduceBEq, Nat.reduceLeDiff, Nat.reduceLT, beq_self_eq_true, cond_true, cond_false, Int.reduceToNat, tab.u3, tab.s3, tab.a3, tab.u5, tab.s5, tab.a5, tab.u35, tab.s35, tab.a35, tab.u36, tab.s36, tab.a36, brow_len, brow_cell, brows_at, urows_length, urows_at, urow_cell, urow_len, trows_length, trows_at, trow_cell, trow_len]
        have hm' : m = wide n := by simp only [decide_eq_false_iff_not] at h; omega
        subst hm'
        have hft : (bigEnd (wide n) n).take (wide n) = bigEnd (wide n) n := List.take_of_length_le (by rw [bigEnd_length]; omega)
        have hfm : form n = UInt8.ofNat (wide n) :: (bigEnd (wide n) n).take (wide n) := by rw [hft]; rfl
        rw [hfl, hfm, Nat.add_comm]
        refine SQ.runL (rs := [.tmp 2]) [1] _ _ rfl (And.intro rfl rfl) (by decide) rfl rfl ?_ ?_
        · simp -dsimp (decide := true) (maxSteps := 1000000) (disch := first | omega | simp (decide := true) only [bdset_a, nres.flat, tres.flat, ires.flat, urows.flat, urows_length, brow_len, urow_len, brow_flat, trows_flat, trows_length, trow_len]) only [brun_a, ↓brun_b, envOf, reduceIte, Nat.reduceEqDiff, Nat.reduceAdd, Nat.reduceSub, Nat.reduceMul, Nat.reduceBEq, Nat.reduceLeDiff, Nat.reduceLT, beq_self_eq_true, cond_true, cond_false, Int.reduceToNat, tab.u3, tab.s3, tab.a3, tab.u5, tab.s5, tab.a5, tab.u35, tab.s35, tab.a35, tab.u36, tab.s36, tab.a36, brow_len, brow_cell, brows_at, urows_length, urows_at, urow_cell, urow_len, trows_length, trows_at, trow_cell, trow_len, bwk_a, frz1, eq_self, implies_true, rho, ↓reduceIte, forall_const]
        · simp -dsimp (decide := true) (maxSteps := 1000000) (disch := first | omega | simp (decide := true) only [bdset_a, nres.flat, tres.flat, ires.flat, urows.flat, urows_length, brow_len, urow_len, brow_flat, trows_flat, trows_length, trow_len]) only [brun_a, ↓brun_b, envOf, reduceIte, Nat.reduceEqDiff, Nat.reduceAdd, Nat.reduceSub, Nat.reduceMul, Nat.reduceBEq, Nat.reduceLeDiff, Nat.reduceLT, beq_self_eq_true, cond_true, cond_false, Int.reduceToNat, tab.u3, tab.s3, tab.a3, tab.u5, tab.s5, tab.a5, tab.u35, tab.s35, tab.a35, tab.u36, tab.s36, tab.a36, brow_len, brow_cell, brows_at, urows_length, urows_at, urow_cell, urow_len, trows_length, trows_at, trow_cell, trow_len, bwk_a, frz1, eq_self, implies_true, rho, ↓reduceIte, forall_const]
end Go.Proofs
