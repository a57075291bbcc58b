/- Notes of the document: annuletref16.Put, Forget; and the law's own look. -/
import Derived.Test.YtheodenjjaoncaaNoteB
set_option linter.unusedVariables false
set_option linter.unusedSimpArgs false
namespace Go.Proofs
open Go Go.SL
set_option maxRecDepth 100000
theorem refForget_calls (hs : List Hd) (n : Int) (hb : hs.length * 32 ≤ 140737488355328) : Pure Try.prog 65 [.rsl 18 (hrows hs), .v (.int .i64 n)] (.rsl 18 (hrows (noteDrop hs n))) := by
  refine SCall.mk (fn := Try.f65) (by kernel_rfl) rfl (Nat.le_of_ble_eq_true (by kernel_rfl)) ?_
  refine Sem.go (k := 1000) ?_
  simp -dsimp (decide := true) (maxSteps := 1000000) (disch := first | omega | simp (decide := true) only [bdset_a, Hd.one, Hd.c_length, I16.c_length, I16.one, I16.flat, Hd.flat, hrows.flat, hrows_length, hrow_flat, hrow_len]) only [brun_a, ↓brun_b, envOf, reduceIte, Nat.reduceEqDiff, Nat.reduceAdd, Nat.reduceSub, Nat.reduceMul, Nat.reduceBEq, Nat.reduceLeDiff, Nat.reduceLT, beq_self_eq_true, cond_true, cond_false, Int.reduceToNat, tab.u2, tab.s2, tab.a2, tab.u3, tab.s3, tab.a3, tab.u5, tab.s5, tab.a5, tab.u23, tab.s23, tab.a23, tab.u28, tab.s28, tab.a28, tab.u30, tab.s30, tab.a30, tab.f28x0, tab.f28x1, tab.f28x2, I16.part, Hd.part_id, Hd.part_n, Hd.part_far, Hd.part, Hd.c_length, I16.c_length, hrows_length, hrows_getD]
  refine Sem.ghost 5 18 28 rfl ?_
  refine Sem.loop (ι := {k : Nat // k ≤ hs.length}) (fun k => ⟨28, 0, [(0, .rsl 18 (hrows hs)), (1, .v (.int .i64 n)), (6, .v (.int .i64 (k.1 : Int))), (5, .slc 0 0 (noteDrop (hs.take k.1) n).length)], [some (.row ⟨18, (noteDrop (hs.take k.1) n).length, true, 28, hrow (noteDrop (hs.take k.1) n)⟩)]⟩) (fun k => hs.length - k.1) ⟨0, by omega⟩ [0] ?_ ?_
  · (refine Wk.ofC ?_; simp -dsimp (decide := true) (maxSteps := 1000000) (disch := first | omega | simp (decide := true) only [bdset_a, Hd.one, Hd.c_length, I16.c_length, I16.one, I16.flat, Hd.flat, hrows.flat, hrows_length, hrow_flat, hrow_len]) only [brun_a, ↓brun_b, envOf, reduceIte, Nat.reduceEqDiff, Nat.reduceAdd, Nat.reduceSub, Nat.reduceMul, Nat.reduceBEq, Nat.reduceLeDiff, Nat.reduceLT, beq_self_eq_true, cond_true, cond_false, Int.reduceToNat, tab.u2, tab.s2, tab.a2, tab.u3, tab.s3, tab.a3, tab.u5, tab.s5, tab.a5, tab.u23, tab.s23, tab.a23, tab.u28, tab.s28, tab.a28, tab.u30, tab.s30, tab.a30, tab.f28x0, tab.f28x1, tab.f28x2, I16.part, Hd.part_id, Hd.part_n, Hd.part_far, Hd.part, Hd.c_length, I16.c_length, hrows_length, hrows_getD, List.take_zero, noteDrop, List.filter_nil, bwk_a, frz1, eq_self, implies_true, rho, ↓reduceIte, forall_const])
  · rintro ⟨k, hk⟩
    refine Sem.go (k := 1000) ?_
    simp -dsimp (decide := true) (maxSteps := 1000000) (disch := first | omega | simp (decide := true) only [bdset_a, Hd.one, Hd.c_length, I16.c_length, I16.one, I16.flat, Hd.flat, hrows.flat, hrows_length, hrow_flat, hrow_len]) only [brun_a, ↓brun_b, envOf, reduceIte, Nat.reduceEqDiff, Nat.reduceAdd, Nat.reduceSub, Nat.reduceMul, Nat.reduceBEq, Nat.reduceLeDiff, Nat.reduceLT, beq_self_eq_true, cond_true, cond_false, Int.reduceToNat, tab.u2, tab.s2, tab.a2, tab.u3, tab.s3, tab.a3, tab.u5, tab.s5, tab.a5, tab.u23, tab.s23, tab.a23, tab.u28, tab.s28, tab.a28, tab.u30, tab.s30, tab.a30, tab.f28x0, tab.f28x1, tab.f28x2, I16.part, Hd.part_id, Hd.part_n, Hd.part_far, Hd.part, Hd.c_length, I16.c_length, hrows_length, hrows_getD]
    refine SCond.split (fun h => ?_) (fun h => ?_)
    · simp only [decide_eq_true_eq] at h
      have hk' : k < hs.length := by omega
      have hw : IntKind.i64.wrap ((k : Int) + 1) = ((k + 1 : Nat) : Int) := by rw [wrap_i64 _ (by omega)]; rfl
      have hft := filter_take (fun x => !decide (x.n = n)) hs k hk'
      have hlen : (noteDrop (hs.take k) n).length ≤ k := by
        have := List.length_filter_le (fun x : Hd => !decide (x.n = n)) (hs.take k)
        rw [List.length_take] at this
        unfold noteDrop
        omega
      rw [← noteDrop, ← noteDrop] at hft
      simp -dsimp (decide := true) (maxSteps := 1000000) (disch := first | omega | simp (decide := true) only [bdset_a, Hd.one, Hd.c_length, I16.c_length, I16.one, I16.flat, Hd.flat, hrows.flat, hrows_length, hrow_flat, hrow_len]) only [brun_a, ↓brun_b, envOf, reduceIte, Nat.reduceEqDiff, Nat.reduceAdd, Nat.reduceSub, Nat.reduceMul, Nat.reduceBEq, Nat.reduceLeDiff, Nat.reduceLT, beq_self_eq_true, cond_true, cond_false, Int.reduceToNat, tab.u2, tab.s2, tab.a2, tab.u3, tab.s3, tab.a3, tab.u5, tab.s5, tab.a5, tab.u23, tab.s23, tab.a23, tab.u28, tab.s28, tab.a28, tab.u30, tab.s30, tab.a30, tab.f28x0, tab.f28x1, tab.f28x2, I16.part, Hd.part_id, Hd.part_n, Hd.part_far, Hd.part, Hd.c_length, I16.c_length, hrows_length, hrows_getD]
      generalize hgx : hs.getD k Hd.zero = x at *
      generalize noteDrop (hs.take k) n = l at *
      refine And.intro (by omega) ?_
      refine SCond.split (fun h1 => ?_) (fun h1 => ?_)
      · rw [if_pos h1] at hft
        simp -dsimp (decide := true) (maxSteps := 1000000) (disch := first | omega | simp (decide := true) only [bdset_a, Hd.one, Hd.c_length, I16.c_length, I16.one, I16.flat, Hd.flat, hrows.flat, hrows_length, hrow_flat, hrow_len]) only [brun_a, ↓brun_b, envOf, reduceIte, Nat.reduceEqDiff, Nat.reduceAdd, Nat.reduceSub, Nat.reduceMul, Nat.reduceBEq, Nat.reduceLeDiff, Nat.reduceLT, beq_self_eq_true, cond_true, cond_false, Int.reduceToNat, tab.u2, tab.s2, tab.a2, tab.u3, tab.s3, tab.a3, tab.u5, tab.s5, tab.a5, tab.u23, tab.s23, tab.a23, tab.u28, tab.s28, tab.a28, tab.u30, tab.s30, tab.a30, tab.f28x0, tab.f28x1, tab.f28x2, I16.part, Hd.part_id, Hd.part_n, Hd.part_far, Hd.part, Hd.c_length, I16.c_length, hrows_length, hrows_getD, hw, hgx, bs30, sapp1_sl el28]
        refine And.intro (by omega) (And.intro (by omega) ⟨⟨k + 1, by omega⟩, [2], ?_, by show hs.length - (k + 1) < hs.length - k; omega⟩)
        have hl2 : (l ++ [x]).length = l.length + 1 := by simp
        (refine Wk.ofC ?_; simp -dsimp (decide := true) (maxSteps := 1000000) (disch := first | omega | simp (decide := true) only [bdset_a, Hd.one, Hd.c_length, I16.c_length, I16.one, I16.flat, Hd.flat, hrows.flat, hrows_length, hrow_flat, hrow_len]) only [brun_a, ↓brun_b, envOf, reduceIte, Nat.reduceEqDiff, Nat.reduceAdd, Nat.reduceSub, Nat.reduceMul, Nat.reduceBEq, Nat.reduceLeDiff, Nat.reduceLT, beq_self_eq_true, cond_true, cond_false, Int.reduceToNat, tab.u2, tab.s2, tab.a2, tab.u3, tab.s3, tab.a3, tab.u5, tab.s5, tab.a5, tab.u23, tab.s23, tab.a23, tab.u28, tab.s28, tab.a28, tab.u30, tab.s30, tab.a30, tab.f28x0, tab.f28x1, tab.f28x2, I16.part, Hd.part_id, Hd.part_n, Hd.part_far, Hd.part, Hd.c_length, I16.c_length, hrows_length, hrows_getD, hft, hl2, bwk_a, frz1, eq_self, implies_true, rho, ↓reduceIte, forall_const])
        exact fun e he => ent_hrow_app l x rfl he
      · rw [if_neg (by rw [h1]; decide), List.append_nil] at hft
        simp -dsimp (decide := true) (maxSteps := 1000000) (disch := first | omega | simp (decide := true) only [bdset_a, Hd.one, Hd.c_length, I16.c_length, I16.one, I16.flat, Hd.flat, hrows.flat, hrows_length, hrow_flat, hrow_len]) only [brun_a, ↓brun_b, envOf, reduceIte, Nat.reduceEqDiff, Nat.reduceAdd, Nat.reduceSub, Nat.reduceMul, Nat.reduceBEq, Nat.reduceLeDiff, Nat.reduceLT, beq_self_eq_true, cond_true, cond_false, Int.reduceToNat, tab.u2, tab.s2, tab.a2, tab.u3, tab.s3, tab.a3, tab.u5, tab.s5, tab.a5, tab.u23, tab.s23, tab.a23, tab.u28, tab.s28, tab.a28, tab.u30, tab.s30, tab.a30, tab.f28x0, tab.f28x1, tab.f28x2, I16.part, Hd.part_id, Hd.part_n, Hd.part_far, Hd.part, Hd.c_length, I16.c_length, hrows_length, hrows_getD, hw]
        refine ⟨⟨k + 1, by omega⟩, [0], ?_, by show hs.length - (k + 1) < hs.length - k; omega⟩
        (refine Wk.ofC ?_; simp -dsimp (decide := true) (maxSteps := 1000000) (disch := first | omega | simp (decide := true) only [bdset_a, Hd.one, Hd.c_length, I16.c_length, I16.one, I16.flat, Hd.flat, hrows.flat, hrows_length, hrow_flat, hrow_len]) only [brun_a, ↓brun_b, envOf, reduceIte, Nat.reduceEqDiff, Nat.reduceAdd, Nat.reduceSub, Nat.reduceMul, Nat.reduceBEq, Nat.reduceLeDiff, Nat.reduceLT, beq_self_eq_true, cond_true, cond_false, Int.reduceToNat, tab.u2, tab.s2, tab.a2, tab.u3, tab.s3, tab.a3, tab.u5, tab.s5, tab.a5, tab.u23, tab.s23, tab.a23, tab.u28, tab.s28, tab.a28, tab.u30, tab.s30, tab.a30, tab.f28x0, tab.f28x1, tab.f28x2, I16.part, Hd.part_id, Hd.part_n, Hd.part_far, Hd.part, Hd.c_length, I16.c_length, hrows_length, hrows_getD, hft, bwk_a, frz1, eq_self, implies_true, rho, ↓reduceIte, forall_const])
    · simp only [decide_eq_false_iff_not] at h
      obtain rfl : k = hs.length := by omega
      have hft : hs.take hs.length = hs := List.take_length
      simp -dsimp (decide := true) (maxSteps := 1000000) (disch := first | omega | simp (decide := true) only [bdset_a, Hd.one, Hd.c_length, I16.c_length, I16.one, I16.flat, Hd.flat, hrows.flat, hrows_length, hrow_flat, hrow_len]) only [brun_a, ↓brun_b, envOf, reduceIte, Nat.reduceEqDiff, Nat.reduceAdd, Nat.reduceSub, Nat.reduceMul, Nat.reduceBEq, Nat.reduceLeDiff, Nat.reduceLT, beq_self_eq_true, cond_true, cond_false, Int.reduceToNat, tab.u2, tab.s2, tab.a2, tab.u3, tab.s3, tab.a3, tab.u5, tab.s5, tab.a5, tab.u23, tab.s23, tab.a23, tab.u28, tab.s28, tab.a28, tab.u30, tab.s30, tab.a30, tab.f28x0, tab.f28x1, tab.f28x2, I16.part, Hd.part_id, Hd.part_n, Hd.part_far, Hd.part, Hd.c_length, I16.c_length, hrows_length, hrows_getD, hft]
      refine SQ.answer (rs := [.tmp 4]) rfl rfl ?_
      simp -dsimp (decide := true) (maxSteps := 1000000) (disch := first | omega | simp (decide := true) only [bdset_a, Hd.one, Hd.c_length, I16.c_length, I16.one, I16.flat, Hd.flat, hrows.flat, hrows_length, hrow_flat, hrow_len]) only [brun_a, ↓brun_b, envOf, reduceIte, Nat.reduceEqDiff, Nat.reduceAdd, Nat.reduceSub, Nat.reduceMul, Nat.reduceBEq, Nat.reduceLeDiff, Nat.reduceLT, beq_self_eq_true, cond_true, cond_false, Int.reduceToNat, tab.u2, tab.s2, tab.a2, tab.u3, tab.s3, tab.a3, tab.u5, tab.s5, tab.a5, tab.u23, tab.s23, tab.a23, tab.u28, tab.s28, tab.a28, tab.u30, tab.s30, tab.a30, tab.f28x0, tab.f28x1, tab.f28x2, I16.part, Hd.part_id, Hd.part_n, Hd.part_far, Hd.part, Hd.c_length, I16.c_length, hrows_length, hrows_getD, bwk_a, frz1, eq_self, implies_true, rho, ↓reduceIte, forall_const]
      refine Ent_row rfl rfl (hrows_length _).symm (by omega) fun i r hr => ?_
      obtain ⟨_, rfl⟩ := hrows_get hr
      rw [Nat.zero_add]
      exact Hd.ent _
end Go.Proofs
