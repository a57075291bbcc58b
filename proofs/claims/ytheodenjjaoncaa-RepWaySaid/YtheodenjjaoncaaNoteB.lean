/- Notes: rep.Put. -/
import Derived.Test.YtheodenjjaoncaaNoteA
set_option linter.unusedVariables false
set_option linter.unusedSimpArgs false
namespace Go.Proofs
open Go Go.SL
set_option maxRecDepth 100000
theorem two_filters (hs : List Hd) (m : Int) : ∀ (k : Nat), (hs.filter (fun x => decide (x.n < m))).length + ((hs.take k).filter (fun x => decide (m < x.n))).length ≤ hs.length := by
  intro k
  have h1 : ((hs.take k).filter (fun x : Hd => decide (m < x.n))).length ≤ (hs.filter (fun x : Hd => decide (m < x.n))).length := ((List.take_sublist k hs).filter _).length_le
  have h2 : (hs.filter (fun x : Hd => decide (x.n < m))).length + (hs.filter (fun x : Hd => decide (m < x.n))).length ≤ hs.length := by
    clear h1
    induction hs with
    | nil => simp
    | cons x hs ih =>
      simp only [List.filter_cons, List.length_cons]
      by_cases a : x.n < m
      · have b : ¬ m < x.n := by omega
        simp only [a, b, decide_true, decide_false, if_true, List.length_cons]
        simp only [Bool.false_eq_true, if_false]
        omega
      · by_cases b : m < x.n
        · simp only [a, b, decide_true, decide_false, if_true, List.length_cons]
          simp only [Bool.false_eq_true, if_false]
          omega
        · simp only [a, b, decide_false]
          simp only [Bool.false_eq_true, if_false]
          omega
  omega
theorem put_calls (hs : List Hd) (g : Hd) (hb : (hs.length + 1) * 32 ≤ 140737488355328) : Owns Try.prog 61 [.rsl 18 (hrows hs), .agg g.c] 18 (notePut hs g).length 26 (hrow (notePut hs g)) := by
  have hcnt := two_filters hs g.n
  have hle := List.length_filter_le (fun x : Hd => decide (x.n < g.n)) hs
  refine SCall.mk (fn := Try.f61) (by kernel_rfl) rfl (Nat.le_of_ble_eq_true (by kernel_rfl)) ?_
  refine Sem.go (k := 1000) ?_
  simp -dsimp (decide := true) (maxSteps := 1000000) (disch := first | omega | simp (decide := true) only [bdset_a, Hd.one, Hd.c_length, I16.c_length, I16.one, I16.flat, Hd.flat, hrows.flat, hrows_length, hrow_flat, hrow_len]) only [brun_a, ↓brun_b, envOf, reduceIte, Nat.reduceEqDiff, Nat.reduceAdd, Nat.reduceSub, Nat.reduceMul, Nat.reduceBEq, Nat.reduceLeDiff, Nat.reduceLT, beq_self_eq_true, cond_true, cond_false, Int.reduceToNat, tab.u2, tab.s2, tab.a2, tab.u3, tab.s3, tab.a3, tab.u5, tab.s5, tab.a5, tab.u23, tab.s23, tab.a23, tab.u24, tab.s24, tab.a24, tab.u26, tab.s26, tab.a26, tab.f26x0, tab.f26x1, tab.f26x2, I16.part, Hd.part_id, Hd.part_n, Hd.part_far, Hd.part, Hd.c_length, I16.c_length, hrows_length, hrows_getD]
  refine Sem.ghost 5 18 26 rfl ?_
  refine Sem.loop (ι := {k : Nat // k ≤ hs.length}) (fun k => ⟨47, 0, [(0, .rsl 18 (hrows hs)), (3, .ptr 0 0 0), (10, .rsl 18 (hrows hs)), (11, .v (.int .i64 (hs.length : Int))), (12, .v (.int .i64 (k.1 : Int))), (5, .slc 1 0 ((hs.take k.1).filter fun x => decide (x.n < g.n)).length)], [some (.row ⟨18, 1, true, 26, fun _ => g.c⟩), some (.row ⟨18, ((hs.take k.1).filter fun x => decide (x.n < g.n)).length, true, 26, hrow ((hs.take k.1).filter fun x => decide (x.n < g.n))⟩)]⟩) (fun k => hs.length - k.1) ⟨0, by omega⟩ [0, 1] ?_ ?_
  · (refine Wk.ofC ?_; simp -dsimp (decide := true) (maxSteps := 1000000) (disch := first | omega | simp (decide := true) only [bdset_a, Hd.one, Hd.c_length, I16.c_length, I16.one, I16.flat, Hd.flat, hrows.flat, hrows_length, hrow_flat, hrow_len]) only [brun_a, ↓brun_b, envOf, reduceIte, Nat.reduceEqDiff, Nat.reduceAdd, Nat.reduceSub, Nat.reduceMul, Nat.reduceBEq, Nat.reduceLeDiff, Nat.reduceLT, beq_self_eq_true, cond_true, cond_false, Int.reduceToNat, tab.u2, tab.s2, tab.a2, tab.u3, tab.s3, tab.a3, tab.u5, tab.s5, tab.a5, tab.u23, tab.s23, tab.a23, tab.u24, tab.s24, tab.a24, tab.u26, tab.s26, tab.a26, tab.f26x0, tab.f26x1, tab.f26x2, I16.part, Hd.part_id, Hd.part_n, Hd.part_far, Hd.part, Hd.c_length, I16.c_length, hrows_length, hrows_getD, List.take_zero, List.filter_nil, bwk_a, frz1, eq_self, implies_true, rho, ↓reduceIte, forall_const])
  · rintro ⟨k, hk⟩
    refine Sem.go (k := 1000) ?_
    simp -dsimp (decide := true) (maxSteps := 1000000) (disch := first | omega | simp (decide := true) only [bdset_a, Hd.one, Hd.c_length, I16.c_length, I16.one, I16.flat, Hd.flat, hrows.flat, hrows_length, hrow_flat, hrow_len]) only [brun_a, ↓brun_b, envOf, reduceIte, Nat.reduceEqDiff, Nat.reduceAdd, Nat.reduceSub, Nat.reduceMul, Nat.reduceBEq, Nat.reduceLeDiff, Nat.reduceLT, beq_self_eq_true, cond_true, cond_false, Int.reduceToNat, tab.u2, tab.s2, tab.a2, tab.u3, tab.s3, tab.a3, tab.u5, tab.s5, tab.a5, tab.u23, tab.s23, tab.a23, tab.u24, tab.s24, tab.a24, tab.u26, tab.s26, tab.a26, tab.f26x0, tab.f26x1, tab.f26x2, I16.part, Hd.part_id, Hd.part_n, Hd.part_far, Hd.part, Hd.c_length, I16.c_length, hrows_length, hrows_getD]
    refine SCond.split (fun h => ?_) (fun h => ?_)
    · simp only [decide_eq_true_eq] at h
      have hk' : k < hs.length := by omega
      have hw : IntKind.i64.wrap ((k : Int) + 1) = ((k + 1 : Nat) : Int) := by rw [wrap_i64 _ (by omega)]; rfl
      have hft := filter_take (fun x => decide (x.n < g.n)) hs k hk'
      have hlen : ((hs.take k).filter fun x : Hd => decide (x.n < g.n)).length ≤ k := by
        have := List.length_filter_le (fun x : Hd => decide (x.n < g.n)) (hs.take k)
        rw [List.length_take] at this
        omega
      simp -dsimp (decide := true) (maxSteps := 1000000) (disch := first | omega | simp (decide := true) only [bdset_a, Hd.one, Hd.c_length, I16.c_length, I16.one, I16.flat, Hd.flat, hrows.flat, hrows_length, hrow_flat, hrow_len]) only [brun_a, ↓brun_b, envOf, reduceIte, Nat.reduceEqDiff, Nat.reduceAdd, Nat.reduceSub, Nat.reduceMul, Nat.reduceBEq, Nat.reduceLeDiff, Nat.reduceLT, beq_self_eq_true, cond_true, cond_false, Int.reduceToNat, tab.u2, tab.s2, tab.a2, tab.u3, tab.s3, tab.a3, tab.u5, tab.s5, tab.a5, tab.u23, tab.s23, tab.a23, tab.u24, tab.s24, tab.a24, tab.u26, tab.s26, tab.a26, tab.f26x0, tab.f26x1, tab.f26x2, I16.part, Hd.part_id, Hd.part_n, Hd.part_far, Hd.part, Hd.c_length, I16.c_length, hrows_length, hrows_getD, alloc26, splice_all]
      generalize hs.getD k Hd.zero = x at *
      generalize ((hs.take k).filter fun x => decide (x.n < g.n)) = l at *
      refine And.intro (by omega) ?_
      refine SCond.split (fun h1 => ?_) (fun h1 => ?_)
      · rw [if_pos h1] at hft
        simp -dsimp (decide := true) (maxSteps := 1000000) (disch := first | omega | simp (decide := true) only [bdset_a, Hd.one, Hd.c_length, I16.c_length, I16.one, I16.flat, Hd.flat, hrows.flat, hrows_length, hrow_flat, hrow_len]) only [brun_a, ↓brun_b, envOf, reduceIte, Nat.reduceEqDiff, Nat.reduceAdd, Nat.reduceSub, Nat.reduceMul, Nat.reduceBEq, Nat.reduceLeDiff, Nat.reduceLT, beq_self_eq_true, cond_true, cond_false, Int.reduceToNat, tab.u2, tab.s2, tab.a2, tab.u3, tab.s3, tab.a3, tab.u5, tab.s5, tab.a5, tab.u23, tab.s23, tab.a23, tab.u24, tab.s24, tab.a24, tab.u26, tab.s26, tab.a26, tab.f26x0, tab.f26x1, tab.f26x2, I16.part, Hd.part_id, Hd.part_n, Hd.part_far, Hd.part, Hd.c_length, I16.c_length, hrows_length, hrows_getD, hw, bs24, sapp1_sl el26]
        refine And.intro (by omega) ⟨⟨k + 1, by omega⟩, [0, 4], ?_, by show hs.length - (k + 1) < hs.length - k; omega⟩
        have hl2 : (l ++ [x]).length = l.length + 1 := by simp
        (refine Wk.ofC ?_; simp -dsimp (decide := true) (maxSteps := 1000000) (disch := first | omega | simp (decide := true) only [bdset_a, Hd.one, Hd.c_length, I16.c_length, I16.one, I16.flat, Hd.flat, hrows.flat, hrows_length, hrow_flat, hrow_len]) only [brun_a, ↓brun_b, envOf, reduceIte, Nat.reduceEqDiff, Nat.reduceAdd, Nat.reduceSub, Nat.reduceMul, Nat.reduceBEq, Nat.reduceLeDiff, Nat.reduceLT, beq_self_eq_true, cond_true, cond_false, Int.reduceToNat, tab.u2, tab.s2, tab.a2, tab.u3, tab.s3, tab.a3, tab.u5, tab.s5, tab.a5, tab.u23, tab.s23, tab.a23, tab.u24, tab.s24, tab.a24, tab.u26, tab.s26, tab.a26, tab.f26x0, tab.f26x1, tab.f26x2, I16.part, Hd.part_id, Hd.part_n, Hd.part_far, Hd.part, Hd.c_length, I16.c_length, hrows_length, hrows_getD, hft, hl2, bwk_a, frz1, eq_self, implies_true, rho, ↓reduceIte, forall_const])
        exact fun e he => ent_hrow_app l x rfl he
      · rw [if_neg (by rw [h1]; decide), List.append_nil] at hft
        simp -dsimp (decide := true) (maxSteps := 1000000) (disch := first | omega | simp (decide := true) only [bdset_a, Hd.one, Hd.c_length, I16.c_length, I16.one, I16.flat, Hd.flat, hrows.flat, hrows_length, hrow_flat, hrow_len]) only [brun_a, ↓brun_b, envOf, reduceIte, Nat.reduceEqDiff, Nat.reduceAdd, Nat.reduceSub, Nat.reduceMul, Nat.reduceBEq, Nat.reduceLeDiff, Nat.reduceLT, beq_self_eq_true, cond_true, cond_false, Int.reduceToNat, tab.u2, tab.s2, tab.a2, tab.u3, tab.s3, tab.a3, tab.u5, tab.s5, tab.a5, tab.u23, tab.s23, tab.a23, tab.u24, tab.s24, tab.a24, tab.u26, tab.s26, tab.a26, tab.f26x0, tab.f26x1, tab.f26x2, I16.part, Hd.part_id, Hd.part_n, Hd.part_far, Hd.part, Hd.c_length, I16.c_length, hrows_length, hrows_getD, hw]
        refine ⟨⟨k + 1, by omega⟩, [0, 1], ?_, by show hs.length - (k + 1) < hs.length - k; omega⟩
        (refine Wk.ofC ?_; simp -dsimp (decide := true) (maxSteps := 1000000) (disch := first | omega | simp (decide := true) only [bdset_a, Hd.one, Hd.c_length, I16.c_length, I16.one, I16.flat, Hd.flat, hrows.flat, hrows_length, hrow_flat, hrow_len]) only [brun_a, ↓brun_b, envOf, reduceIte, Nat.reduceEqDiff, Nat.reduceAdd, Nat.reduceSub, Nat.reduceMul, Nat.reduceBEq, Nat.reduceLeDiff, Nat.reduceLT, beq_self_eq_true, cond_true, cond_false, Int.reduceToNat, tab.u2, tab.s2, tab.a2, tab.u3, tab.s3, tab.a3, tab.u5, tab.s5, tab.a5, tab.u23, tab.s23, tab.a23, tab.u24, tab.s24, tab.a24, tab.u26, tab.s26, tab.a26, tab.f26x0, tab.f26x1, tab.f26x2, I16.part, Hd.part_id, Hd.part_n, Hd.part_far, Hd.part, Hd.c_length, I16.c_length, hrows_length, hrows_getD, hft, bwk_a, frz1, eq_self, implies_true, rho, ↓reduceIte, forall_const])
    · simp only [decide_eq_false_iff_not] at h
      obtain rfl : k = hs.length := by omega
      have hft : hs.take hs.length = hs := List.take_length
      simp -dsimp (decide := true) (maxSteps := 1000000) (disch := first | omega | simp (decide := true) only [bdset_a, Hd.one, Hd.c_length, I16.c_length, I16.one, I16.flat, Hd.flat, hrows.flat, hrows_length, hrow_flat, hrow_len]) only [brun_a, ↓brun_b, envOf, reduceIte, Nat.reduceEqDiff, Nat.reduceAdd, Nat.reduceSub, Nat.reduceMul, Nat.reduceBEq, Nat.reduceLeDiff, Nat.reduceLT, beq_self_eq_true, cond_true, cond_false, Int.reduceToNat, tab.u2, tab.s2, tab.a2, tab.u3, tab.s3, tab.a3, tab.u5, tab.s5, tab.a5, tab.u23, tab.s23, tab.a23, tab.u24, tab.s24, tab.a24, tab.u26, tab.s26, tab.a26, tab.f26x0, tab.f26x1, tab.f26x2, I16.part, Hd.part_id, Hd.part_n, Hd.part_far, Hd.part, Hd.c_length, I16.c_length, hrows_length, hrows_getD, hft, bs24, sapp1_sl el26]
      have hnp : notePut hs g = ((hs.filter fun x => decide (x.n < g.n)) ++ [g]) ++ ((hs.take hs.length).filter fun x => decide (g.n < x.n)) := by rw [hft, List.append_assoc]; rfl
      generalize (hs.filter fun x => decide (x.n < g.n)) = A at *
      refine And.intro (by omega) ?_
      have hl2 : (A ++ [g]).length = A.length + 1 := by simp
      refine Sem.loop (ι := {k : Nat // k ≤ hs.length}) (fun k => ⟨47, 0, [(3, .ptr 0 0 0), (30, .rsl 18 (hrows hs)), (31, .v (.int .i64 (hs.length : Int))), (32, .v (.int .i64 (k.1 : Int))), (5, .slc 1 0 ((A ++ [g]) ++ (hs.take k.1).filter fun x => decide (g.n < x.n)).length)], [some (.row ⟨18, 1, true, 26, fun _ => g.c⟩), some (.row ⟨18, ((A ++ [g]) ++ (hs.take k.1).filter fun x => decide (g.n < x.n)).length, true, 26, hrow ((A ++ [g]) ++ (hs.take k.1).filter fun x => decide (g.n < x.n))⟩)]⟩) (fun k => hs.length - k.1) ⟨0, by omega⟩ [0, 3] ?_ ?_
      · (refine Wk.ofC ?_; simp -dsimp (decide := true) (maxSteps := 1000000) (disch := first | omega | simp (decide := true) only [bdset_a, Hd.one, Hd.c_length, I16.c_length, I16.one, I16.flat, Hd.flat, hrows.flat, hrows_length, hrow_flat, hrow_len]) only [brun_a, ↓brun_b, envOf, reduceIte, Nat.reduceEqDiff, Nat.reduceAdd, Nat.reduceSub, Nat.reduceMul, Nat.reduceBEq, Nat.reduceLeDiff, Nat.reduceLT, beq_self_eq_true, cond_true, cond_false, Int.reduceToNat, tab.u2, tab.s2, tab.a2, tab.u3, tab.s3, tab.a3, tab.u5, tab.s5, tab.a5, tab.u23, tab.s23, tab.a23, tab.u24, tab.s24, tab.a24, tab.u26, tab.s26, tab.a26, tab.f26x0, tab.f26x1, tab.f26x2, I16.part, Hd.part_id, Hd.part_n, Hd.part_far, Hd.part, Hd.c_length, I16.c_length, hrows_length, hrows_getD, List.take_zero, List.filter_nil, hl2, bwk_a, frz1, eq_self, implies_true, rho, ↓reduceIte, forall_const])
        exact fun e he => ent_hrow_app A g rfl he
      · rintro ⟨k, hk⟩
        refine Sem.go (k := 1000) ?_
        simp -dsimp (decide := true) (maxSteps := 1000000) (disch := first | omega | simp (decide := true) only [bdset_a, Hd.one, Hd.c_length, I16.c_length, I16.one, I16.flat, Hd.flat, hrows.flat, hrows_length, hrow_flat, hrow_len]) only [brun_a, ↓brun_b, envOf, reduceIte, Nat.reduceEqDiff, Nat.reduceAdd, Nat.reduceSub, Nat.reduceMul, Nat.reduceBEq, Nat.reduceLeDiff, Nat.reduceLT, beq_self_eq_true, cond_true, cond_false, Int.reduceToNat, tab.u2, tab.s2, tab.a2, tab.u3, tab.s3, tab.a3, tab.u5, tab.s5, tab.a5, tab.u23, tab.s23, tab.a23, tab.u24, tab.s24, tab.a24, tab.u26, tab.s26, tab.a26, tab.f26x0, tab.f26x1, tab.f26x2, I16.part, Hd.part_id, Hd.part_n, Hd.part_far, Hd.part, Hd.c_length, I16.c_length, hrows_length, hrows_getD]
        refine SCond.split (fun h => ?_) (fun h => ?_)
        · simp only [decide_eq_true_eq] at h
          have hk' : k < hs.length := by omega
          have hw : IntKind.i64.wrap ((k : Int) + 1) = ((k + 1 : Nat) : Int) := by rw [wrap_i64 _ (by omega)]; rfl
          have hft := filter_take (fun x => decide (g.n < x.n)) hs k hk'
          have hck := hcnt k
          simp -dsimp (decide := true) (maxSteps := 1000000) (disch := first | omega | simp (decide := true) only [bdset_a, Hd.one, Hd.c_length, I16.c_length, I16.one, I16.flat, Hd.flat, hrows.flat, hrows_length, hrow_flat, hrow_len]) only [brun_a, ↓brun_b, envOf, reduceIte, Nat.reduceEqDiff, Nat.reduceAdd, Nat.reduceSub, Nat.reduceMul, Nat.reduceBEq, Nat.reduceLeDiff, Nat.reduceLT, beq_self_eq_true, cond_true, cond_false, Int.reduceToNat, tab.u2, tab.s2, tab.a2, tab.u3, tab.s3, tab.a3, tab.u5, tab.s5, tab.a5, tab.u23, tab.s23, tab.a23, tab.u24, tab.s24, tab.a24, tab.u26, tab.s26, tab.a26, tab.f26x0, tab.f26x1, tab.f26x2, I16.part, Hd.part_id, Hd.part_n, Hd.part_far, Hd.part, Hd.c_length, I16.c_length, hrows_length, hrows_getD, alloc26, splice_all]
          generalize hs.getD k Hd.zero = x at *
          have hll : ((A ++ [g]) ++ (hs.take k).filter fun x => decide (g.n < x.n)).length = A.length + 1 + ((hs.take k).filter fun x => decide (g.n < x.n)).length := by rw [List.length_append, hl2]
          generalize ((hs.take k).filter fun x => decide (g.n < x.n)) = l at *
          refine And.intro (by omega) ?_
          refine SCond.split (fun h1 => ?_) (fun h1 => ?_)
          · rw [if_pos h1] at hft
            simp -dsimp (decide := true) (maxSteps := 1000000) (disch := first | omega | simp (decide := true) only [bdset_a, Hd.one, Hd.c_length, I16.c_length, I16.one, I16.flat, Hd.flat, hrows.flat, hrows_length, hrow_flat, hrow_len]) only [brun_a, ↓brun_b, envOf, reduceIte, Nat.reduceEqDiff, Nat.reduceAdd, Nat.reduceSub, Nat.reduceMul, Nat.reduceBEq, Nat.reduceLeDiff, Nat.reduceLT, beq_self_eq_true, cond_true, cond_false, Int.reduceToNat, tab.u2, tab.s2, tab.a2, tab.u3, tab.s3, tab.a3, tab.u5, tab.s5, tab.a5, tab.u23, tab.s23, tab.a23, tab.u24, tab.s24, tab.a24, tab.u26, tab.s26, tab.a26, tab.f26x0, tab.f26x1, tab.f26x2, I16.part, Hd.part_id, Hd.part_n, Hd.part_far, Hd.part, Hd.c_length, I16.c_length, hrows_length, hrows_getD, hw, bs24, sapp1_sl el26]
            have hl3 : (A ++ [g] ++ l ++ [x]).length = (A ++ [g] ++ l).length + 1 := by rw [List.length_append]; rfl
            have hck1 := hcnt (k + 1)
            rw [hft, List.length_append, List.length_singleton] at hck1
            refine And.intro (by omega) ⟨⟨k + 1, by omega⟩, [0, 4], ?_, by show hs.length - (k + 1) < hs.length - k; omega⟩
            have hft2 : A ++ [g] ++ ((hs.take (k + 1)).filter fun x => decide (g.n < x.n)) = A ++ [g] ++ l ++ [x] := by rw [hft, ← List.append_assoc (A ++ [g])]
            (refine Wk.ofC ?_; simp -dsimp (decide := true) (maxSteps := 1000000) (disch := first | omega | simp (decide := true) only [bdset_a, Hd.one, Hd.c_length, I16.c_length, I16.one, I16.flat, Hd.flat, hrows.flat, hrows_length, hrow_flat, hrow_len]) only [brun_a, ↓brun_b, envOf, reduceIte, Nat.reduceEqDiff, Nat.reduceAdd, Nat.reduceSub, Nat.reduceMul, Nat.reduceBEq, Nat.reduceLeDiff, Nat.reduceLT, beq_self_eq_true, cond_true, cond_false, Int.reduceToNat, tab.u2, tab.s2, tab.a2, tab.u3, tab.s3, tab.a3, tab.u5, tab.s5, tab.a5, tab.u23, tab.s23, tab.a23, tab.u24, tab.s24, tab.a24, tab.u26, tab.s26, tab.a26, tab.f26x0, tab.f26x1, tab.f26x2, I16.part, Hd.part_id, Hd.part_n, Hd.part_far, Hd.part, Hd.c_length, I16.c_length, hrows_length, hrows_getD, hft2, hl3, bwk_a, frz1, eq_self, implies_true, rho, ↓reduceIte, forall_const])
            exact fun e he => ent_hrow_app (A ++ [g] ++ l) x rfl he
          · rw [if_neg (by rw [h1]; decide), List.append_nil] at hft
            simp -dsimp (decide := true) (maxSteps := 1000000) (disch := first | omega | simp (decide := true) only [bdset_a, Hd.one, Hd.c_length, I16.c_length, I16.one, I16.flat, Hd.flat, hrows.flat, hrows_length, hrow_flat, hrow_len]) only [brun_a, ↓brun_b, envOf, reduceIte, Nat.reduceEqDiff, Nat.reduceAdd, Nat.reduceSub, Nat.reduceMul, Nat.reduceBEq, Nat.reduceLeDiff, Nat.reduceLT, beq_self_eq_true, cond_true, cond_false, Int.reduceToNat, tab.u2, tab.s2, tab.a2, tab.u3, tab.s3, tab.a3, tab.u5, tab.s5, tab.a5, tab.u23, tab.s23, tab.a23, tab.u24, tab.s24, tab.a24, tab.u26, tab.s26, tab.a26, tab.f26x0, tab.f26x1, tab.f26x2, I16.part, Hd.part_id, Hd.part_n, Hd.part_far, Hd.part, Hd.c_length, I16.c_length, hrows_length, hrows_getD, hw]
            refine ⟨⟨k + 1, by omega⟩, [0, 1], ?_, by show hs.length - (k + 1) < hs.length - k; omega⟩
            (refine Wk.ofC ?_; simp -dsimp (decide := true) (maxSteps := 1000000) (disch := first | omega | simp (decide := true) only [bdset_a, Hd.one, Hd.c_length, I16.c_length, I16.one, I16.flat, Hd.flat, hrows.flat, hrows_length, hrow_flat, hrow_len]) only [brun_a, ↓brun_b, envOf, reduceIte, Nat.reduceEqDiff, Nat.reduceAdd, Nat.reduceSub, Nat.reduceMul, Nat.reduceBEq, Nat.reduceLeDiff, Nat.reduceLT, beq_self_eq_true, cond_true, cond_false, Int.reduceToNat, tab.u2, tab.s2, tab.a2, tab.u3, tab.s3, tab.a3, tab.u5, tab.s5, tab.a5, tab.u23, tab.s23, tab.a23, tab.u24, tab.s24, tab.a24, tab.u26, tab.s26, tab.a26, tab.f26x0, tab.f26x1, tab.f26x2, I16.part, Hd.part_id, Hd.part_n, Hd.part_far, Hd.part, Hd.c_length, I16.c_length, hrows_length, hrows_getD, hft, bwk_a, frz1, eq_self, implies_true, rho, ↓reduceIte, forall_const])
        · simp only [decide_eq_false_iff_not] at h
          obtain rfl : k = hs.length := by omega
          simp -dsimp (decide := true) (maxSteps := 1000000) (disch := first | omega | simp (decide := true) only [bdset_a, Hd.one, Hd.c_length, I16.c_length, I16.one, I16.flat, Hd.flat, hrows.flat, hrows_length, hrow_flat, hrow_len]) only [brun_a, ↓brun_b, envOf, reduceIte, Nat.reduceEqDiff, Nat.reduceAdd, Nat.reduceSub, Nat.reduceMul, Nat.reduceBEq, Nat.reduceLeDiff, Nat.reduceLT, beq_self_eq_true, cond_true, cond_false, Int.reduceToNat, tab.u2, tab.s2, tab.a2, tab.u3, tab.s3, tab.a3, tab.u5, tab.s5, tab.a5, tab.u23, tab.s23, tab.a23, tab.u24, tab.s24, tab.a24, tab.u26, tab.s26, tab.a26, tab.f26x0, tab.f26x1, tab.f26x2, I16.part, Hd.part_id, Hd.part_n, Hd.part_far, Hd.part, Hd.c_length, I16.c_length, hrows_length, hrows_getD]
          rw [hnp]
          refine SQ.runL (rs := [.tmp 4]) [1] _ _ rfl (And.intro rfl rfl) (by decide) rfl rfl ?_ ?_
          · simp -dsimp (decide := true) (maxSteps := 1000000) (disch := first | omega | simp (decide := true) only [bdset_a, Hd.one, Hd.c_length, I16.c_length, I16.one, I16.flat, Hd.flat, hrows.flat, hrows_length, hrow_flat, hrow_len]) only [brun_a, ↓brun_b, envOf, reduceIte, Nat.reduceEqDiff, Nat.reduceAdd, Nat.reduceSub, Nat.reduceMul, Nat.reduceBEq, Nat.reduceLeDiff, Nat.reduceLT, beq_self_eq_true, cond_true, cond_false, Int.reduceToNat, tab.u2, tab.s2, tab.a2, tab.u3, tab.s3, tab.a3, tab.u5, tab.s5, tab.a5, tab.u23, tab.s23, tab.a23, tab.u24, tab.s24, tab.a24, tab.u26, tab.s26, tab.a26, tab.f26x0, tab.f26x1, tab.f26x2, I16.part, Hd.part_id, Hd.part_n, Hd.part_far, Hd.part, Hd.c_length, I16.c_length, hrows_length, hrows_getD, bwk_a, frz1, eq_self, implies_true, rho, ↓reduceIte, forall_const]
          · simp -dsimp (decide := true) (maxSteps := 1000000) (disch := first | omega | simp (decide := true) only [bdset_a, Hd.one, Hd.c_length, I16.c_length, I16.one, I16.flat, Hd.flat, hrows.flat, hrows_length, hrow_flat, hrow_len]) only [brun_a, ↓brun_b, envOf, reduceIte, Nat.reduceEqDiff, Nat.reduceAdd, Nat.reduceSub, Nat.reduceMul, Nat.reduceBEq, Nat.reduceLeDiff, Nat.reduceLT, beq_self_eq_true, cond_true, cond_false, Int.reduceToNat, tab.u2, tab.s2, tab.a2, tab.u3, tab.s3, tab.a3, tab.u5, tab.s5, tab.a5, tab.u23, tab.s23, tab.a23, tab.u24, tab.s24, tab.a24, tab.u26, tab.s26, tab.a26, tab.f26x0, tab.f26x1, tab.f26x2, I16.part, Hd.part_id, Hd.part_n, Hd.part_far, Hd.part, Hd.c_length, I16.c_length, hrows_length, hrows_getD, bwk_a, frz1, eq_self, implies_true, rho, ↓reduceIte, forall_const]
end Go.Proofs
