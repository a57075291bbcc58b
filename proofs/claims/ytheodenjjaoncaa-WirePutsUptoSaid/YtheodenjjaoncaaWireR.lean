/- WirePuts, told of values that are not too long. -/
import Derived.Test.YtheodenjjaoncaaWireQ
set_option linter.unusedVariables false
set_option linter.unusedSimpArgs false
namespace Go.Proofs
open Go Go.SL
set_option maxRecDepth 100000
theorem puts_calls (ns : List Nat) (ts : List (List UInt8)) (hn : ∀ n ∈ ns, n < 18446744073709551616) (hb : ns.length * 9 ≤ 140737488355328) (ht : (ptexts ts).length + 9 ≤ 140737488355328) (hts : ts.length < 4611686018427387904) : Pure Try.prog 7 [.rsl 1 (urows ns), .rsl 1 (trows ts)] (.v (.bool true)) := by
  refine SCall.mk (fn := Try.f7) (by kernel_rfl) rfl (Nat.le_of_ble_eq_true (by kernel_rfl)) ?_
  refine Sem.go (k := 1000) ?_
  simp -dsimp (decide := true) (maxSteps := 1000000) (disch := first | omega | simp (decide := true) only [bdset_a, nres.flat, tres.flat, ires.flat, urows.flat, urows_length, brow_len, urow_len, brow_flat, trows_flat, trows_length, trow_len]) only [brun_a, ↓brun_b, envOf, reduceIte, Nat.reduceEqDiff, Nat.reduceAdd, Nat.reduceSub, Nat.reduceMul, Nat.reduceBEq, Nat.reduceLeDiff, Nat.reduceLT, beq_self_eq_true, cond_true, cond_false, Int.reduceToNat, tab.u3, tab.s3, tab.a3, tab.u5, tab.s5, tab.a5, tab.u9, tab.s9, tab.a9, tab.u35, tab.s35, tab.a35, tab.u36, tab.s36, tab.a36, tab.u43, tab.s43, tab.a43, tab.u44, tab.s44, tab.a44, brow_len, brow_cell, brows_at, urows_length, urows_at, urow_cell, urow_len, trows_length, trows_at, trow_cell, trow_len]
  refine Sem.ghost 5 1 5 rfl ?_
  refine Sem.ghost 6 1 5 rfl ?_
  refine Sem.loop (ι := {k : Nat // k ≤ ns.length}) (fun k => ⟨50, 0, [(0, .rsl 1 (urows ns)), (1, .rsl 1 (trows ts)), (11, .rsl 1 (urows ns)), (12, .v (.int .i64 (ns.length : Int))), (13, .v (.int .i64 (k.1 : Int))), (5, .slc 0 0 ((ns.take k.1).flatMap form).length), (6, .slc 1 0 0)], [some (.row ⟨1, ((ns.take k.1).flatMap form).length, true, 5, brow ((ns.take k.1).flatMap form)⟩), some (.row ⟨1, 0, true, 5, brow []⟩)]⟩) (fun k => ns.length - k.1) ⟨0, by omega⟩ [0, 1] ?_ ?_
  · (refine Wk.ofC ?_; simp -dsimp (decide := true) (maxSteps := 1000000) (disch := first | omega | simp (decide := true) only [bdset_a, nres.flat, tres.flat, ires.flat, urows.flat, urows_length, brow_len, urow_len, brow_flat, trows_flat, trows_length, trow_len]) only [brun_a, ↓brun_b, envOf, reduceIte, Nat.reduceEqDiff, Nat.reduceAdd, Nat.reduceSub, Nat.reduceMul, Nat.reduceBEq, Nat.reduceLeDiff, Nat.reduceLT, beq_self_eq_true, cond_true, cond_false, Int.reduceToNat, tab.u3, tab.s3, tab.a3, tab.u5, tab.s5, tab.a5, tab.u9, tab.s9, tab.a9, tab.u35, tab.s35, tab.a35, tab.u36, tab.s36, tab.a36, tab.u43, tab.s43, tab.a43, tab.u44, tab.s44, tab.a44, brow_len, brow_cell, brows_at, urows_length, urows_at, urow_cell, urow_len, trows_length, trows_at, trow_cell, trow_len, List.take_zero, List.flatMap_nil, bwk_a, frz1, eq_self, implies_true, rho, ↓reduceIte, forall_const])
  · rintro ⟨k, hk⟩
    refine Sem.go (k := 1000) ?_
    simp -dsimp (decide := true) (maxSteps := 1000000) (disch := first | omega | simp (decide := true) only [bdset_a, nres.flat, tres.flat, ires.flat, urows.flat, urows_length, brow_len, urow_len, brow_flat, trows_flat, trows_length, trow_len]) only [brun_a, ↓brun_b, envOf, reduceIte, Nat.reduceEqDiff, Nat.reduceAdd, Nat.reduceSub, Nat.reduceMul, Nat.reduceBEq, Nat.reduceLeDiff, Nat.reduceLT, beq_self_eq_true, cond_true, cond_false, Int.reduceToNat, tab.u3, tab.s3, tab.a3, tab.u5, tab.s5, tab.a5, tab.u9, tab.s9, tab.a9, tab.u35, tab.s35, tab.a35, tab.u36, tab.s36, tab.a36, tab.u43, tab.s43, tab.a43, tab.u44, tab.s44, tab.a44, brow_len, brow_cell, brows_at, urows_length, urows_at, urow_cell, urow_len, trows_length, trows_at, trow_cell, trow_len]
    refine SCond.split (fun h => ?_) (fun h => ?_)
    · simp only [decide_eq_true_eq] at h
      have hk' : k < ns.length := by omega
      have hw : IntKind.i64.wrap ((k : Int) + 1) = ((k + 1 : Nat) : Int) := by rw [wrap_i64 _ (by omega)]; rfl
      have hft := forms_take ns k hk'
      have hlen := forms_len (ns.take (k + 1)) fun n h => hn n (List.mem_of_mem_take h)
      rw [List.length_take, Nat.min_eq_left (by omega), hft, List.length_append] at hlen
      have hmem : ns.getD k 0 ∈ ns := by rw [List.getD_eq_getElem?_getD, List.getElem?_eq_getElem hk', Option.getD_some]; exact List.getElem_mem hk'
      have hnn := hn _ hmem
      have hk9 : (k + 1) * 9 ≤ ns.length * 9 := Nat.mul_le_mul_right 9 hk'
      simp -dsimp (decide := true) (maxSteps := 1000000) (disch := first | omega | simp (decide := true) only [bdset_a, nres.flat, tres.flat, ires.flat, urows.flat, urows_length, brow_len, urow_len, brow_flat, trows_flat, trows_length, trow_len]) only [brun_a, ↓brun_b, envOf, reduceIte, Nat.reduceEqDiff, Nat.reduceAdd, Nat.reduceSub, Nat.reduceMul, Nat.reduceBEq, Nat.reduceLeDiff, Nat.reduceLT, beq_self_eq_true, cond_true, cond_false, Int.reduceToNat, tab.u3, tab.s3, tab.a3, tab.u5, tab.s5, tab.a5, tab.u9, tab.s9, tab.a9, tab.u35, tab.s35, tab.a35, tab.u36, tab.s36, tab.a36, tab.u43, tab.s43, tab.a43, tab.u44, tab.s44, tab.a44, brow_len, brow_cell, brows_at, urows_length, urows_at, urow_cell, urow_len, trows_length, trows_at, trow_cell, trow_len]
      generalize ns.getD k 0 = n at *
      generalize (ns.take k).flatMap form = acc at *
      refine And.intro (by omega) ?_
      refine SemOps.callo (k := 1000) cal.f45 (num_owns n hnn) rfl rfl rfl rfl (by simp only [bflat_a, nres.flat, tres.flat, ires.flat, urows.flat, brow_flat, trows_flat]) (brow_flat _) (by simp -dsimp (decide := true) (maxSteps := 1000000) (disch := first | omega | simp (decide := true) only [bdset_a, nres.flat, tres.flat, ires.flat, urows.flat, urows_length, brow_len, urow_len, brow_flat, trows_flat, trows_length, trow_len]) only [brun_a, ↓brun_b, envOf, reduceIte, Nat.reduceEqDiff, Nat.reduceAdd, Nat.reduceSub, Nat.reduceMul, Nat.reduceBEq, Nat.reduceLeDiff, Nat.reduceLT, beq_self_eq_true, cond_true, cond_false, Int.reduceToNat, tab.u3, tab.s3, tab.a3, tab.u5, tab.s5, tab.a5, tab.u9, tab.s9, tab.a9, tab.u35, tab.s35, tab.a35, tab.u36, tab.s36, tab.a36, tab.u43, tab.s43, tab.a43, tab.u44, tab.s44, tab.a44]) ?_
      simp -dsimp (decide := true) (maxSteps := 1000000) (disch := first | omega | simp (decide := true) only [bdset_a, nres.flat, tres.flat, ires.flat, urows.flat, urows_length, brow_len, urow_len, brow_flat, trows_flat, trows_length, trow_len]) only [brun_a, ↓brun_b, envOf, reduceIte, Nat.reduceEqDiff, Nat.reduceAdd, Nat.reduceSub, Nat.reduceMul, Nat.reduceBEq, Nat.reduceLeDiff, Nat.reduceLT, beq_self_eq_true, cond_true, cond_false, Int.reduceToNat, tab.u3, tab.s3, tab.a3, tab.u5, tab.s5, tab.a5, tab.u9, tab.s9, tab.a9, tab.u35, tab.s35, tab.a35, tab.u36, tab.s36, tab.a36, tab.u43, tab.s43, tab.a43, tab.u44, tab.s44, tab.a44, brow_len, brow_cell, brows_at, urows_length, urows_at, urow_cell, urow_len, trows_length, trows_at, trow_cell, trow_len, hw, sapp1_sl el5]
      refine And.intro (by omega) ⟨⟨k + 1, by omega⟩, [3, 1], ?_, by show ns.length - (k + 1) < ns.length - k; omega⟩
      have hl2 : (acc ++ form n).length = acc.length + (form n).length := List.length_append
      (refine Wk.ofC ?_; simp -dsimp (decide := true) (maxSteps := 1000000) (disch := first | omega | simp (decide := true) only [bdset_a, nres.flat, tres.flat, ires.flat, urows.flat, urows_length, brow_len, urow_len, brow_flat, trows_flat, trows_length, trow_len]) only [brun_a, ↓brun_b, envOf, reduceIte, Nat.reduceEqDiff, Nat.reduceAdd, Nat.reduceSub, Nat.reduceMul, Nat.reduceBEq, Nat.reduceLeDiff, Nat.reduceLT, beq_self_eq_true, cond_true, cond_false, Int.reduceToNat, tab.u3, tab.s3, tab.a3, tab.u5, tab.s5, tab.a5, tab.u9, tab.s9, tab.a9, tab.u35, tab.s35, tab.a35, tab.u36, tab.s36, tab.a36, tab.u43, tab.s43, tab.a43, tab.u44, tab.s44, tab.a44, brow_len, brow_cell, brows_at, urows_length, urows_at, urow_cell, urow_len, trows_length, trows_at, trow_cell, trow_len, hft, hl2, bwk_a, frz1, eq_self, implies_true, rho, ↓reduceIte, forall_const])
      intro e he
      rw [brow_app2 _ _ e he]
      exact EntL.self rfl
    · simp only [decide_eq_false_iff_not] at h
      obtain rfl : k = ns.length := by omega
      have hfn : ns.take ns.length = ns := List.take_length
      simp -dsimp (decide := true) (maxSteps := 1000000) (disch := first | omega | simp (decide := true) only [bdset_a, nres.flat, tres.flat, ires.flat, urows.flat, urows_length, brow_len, urow_len, brow_flat, trows_flat, trows_length, trow_len]) only [brun_a, ↓brun_b, envOf, reduceIte, Nat.reduceEqDiff, Nat.reduceAdd, Nat.reduceSub, Nat.reduceMul, Nat.reduceBEq, Nat.reduceLeDiff, Nat.reduceLT, beq_self_eq_true, cond_true, cond_false, Int.reduceToNat, tab.u3, tab.s3, tab.a3, tab.u5, tab.s5, tab.a5, tab.u9, tab.s9, tab.a9, tab.u35, tab.s35, tab.a35, tab.u36, tab.s36, tab.a36, tab.u43, tab.s43, tab.a43, tab.u44, tab.s44, tab.a44, brow_len, brow_cell, brows_at, urows_length, urows_at, urow_cell, urow_len, trows_length, trows_at, trow_cell, trow_len, hfn]
      refine Sem.loop (ι := {k : Nat // k ≤ ts.length}) (fun k => ⟨50, 0, [(0, .rsl 1 (urows ns)), (1, .rsl 1 (trows ts)), (22, .rsl 1 (trows ts)), (23, .v (.int .i64 (ts.length : Int))), (24, .v (.int .i64 (k.1 : Int))), (5, .slc 0 0 (ns.flatMap form).length), (6, .slc 1 0 (ptexts (ts.take k.1)).length)], [some (.row ⟨1, (ns.flatMap form).length, true, 5, brow (ns.flatMap form)⟩), some (.row ⟨1, (ptexts (ts.take k.1)).length, true, 5, brow (ptexts (ts.take k.1))⟩)]⟩) (fun k => ts.length - k.1) ⟨0, by omega⟩ [0, 1] ?_ ?_
      · (refine Wk.ofC ?_; simp -dsimp (decide := true) (maxSteps := 1000000) (disch := first | omega | simp (decide := true) only [bdset_a, nres.flat, tres.flat, ires.flat, urows.flat, urows_length, brow_len, urow_len, brow_flat, trows_flat, trows_length, trow_len]) only [brun_a, ↓brun_b, envOf, reduceIte, Nat.reduceEqDiff, Nat.reduceAdd, Nat.reduceSub, Nat.reduceMul, Nat.reduceBEq, Nat.reduceLeDiff, Nat.reduceLT, beq_self_eq_true, cond_true, cond_false, Int.reduceToNat, tab.u3, tab.s3, tab.a3, tab.u5, tab.s5, tab.a5, tab.u9, tab.s9, tab.a9, tab.u35, tab.s35, tab.a35, tab.u36, tab.s36, tab.a36, tab.u43, tab.s43, tab.a43, tab.u44, tab.s44, tab.a44, brow_len, brow_cell, brows_at, urows_length, urows_at, urow_cell, urow_len, trows_length, trows_at, trow_cell, trow_len, List.take_zero, ptexts_nil, bwk_a, frz1, eq_self, implies_true, rho, ↓reduceIte, forall_const])
      · rintro ⟨k, hk⟩
        refine Sem.go (k := 1000) ?_
        simp -dsimp (decide := true) (maxSteps := 1000000) (disch := first | omega | simp (decide := true) only [bdset_a, nres.flat, tres.flat, ires.flat, urows.flat, urows_length, brow_len, urow_len, brow_flat, trows_flat, trows_length, trow_len]) only [brun_a, ↓brun_b, envOf, reduceIte, Nat.reduceEqDiff, Nat.reduceAdd, Nat.reduceSub, Nat.reduceMul, Nat.reduceBEq, Nat.reduceLeDiff, Nat.reduceLT, beq_self_eq_true, cond_true, cond_false, Int.reduceToNat, tab.u3, tab.s3, tab.a3, tab.u5, tab.s5, tab.a5, tab.u9, tab.s9, tab.a9, tab.u35, tab.s35, tab.a35, tab.u36, tab.s36, tab.a36, tab.u43, tab.s43, tab.a43, tab.u44, tab.s44, tab.a44, brow_len, brow_cell, brows_at, urows_length, urows_at, urow_cell, urow_len, trows_length, trows_at, trow_cell, trow_len]
        refine SCond.split (fun h => ?_) (fun h => ?_)
        · simp only [decide_eq_true_eq] at h
          have hk' : k < ts.length := by omega
          have hw : IntKind.i64.wrap ((k : Int) + 1) = ((k + 1 : Nat) : Int) := by rw [wrap_i64 _ (by omega)]; rfl
          have hpt := ptexts_take ts k hk'
          have hle := ptexts_le ts (k + 1)
          rw [hpt, List.length_append, List.length_append] at hle
          simp -dsimp (decide := true) (maxSteps := 1000000) (disch := first | omega | simp (decide := true) only [bdset_a, nres.flat, tres.flat, ires.flat, urows.flat, urows_length, brow_len, urow_len, brow_flat, trows_flat, trows_length, trow_len]) only [brun_a, ↓brun_b, envOf, reduceIte, Nat.reduceEqDiff, Nat.reduceAdd, Nat.reduceSub, Nat.reduceMul, Nat.reduceBEq, Nat.reduceLeDiff, Nat.reduceLT, beq_self_eq_true, cond_true, cond_false, Int.reduceToNat, tab.u3, tab.s3, tab.a3, tab.u5, tab.s5, tab.a5, tab.u9, tab.s9, tab.a9, tab.u35, tab.s35, tab.a35, tab.u36, tab.s36, tab.a36, tab.u43, tab.s43, tab.a43, tab.u44, tab.s44, tab.a44, brow_len, brow_cell, brows_at, urows_length, urows_at, urow_cell, urow_len, trows_length, trows_at, trow_cell, trow_len]
          generalize ts.getD k [] = t at *
          generalize ptexts (ts.take k) = acc at *
          refine And.intro (by omega) ?_
          have h9 : t.length + 9 ≤ 140737488355328 := by omega
          refine SemOps.callo (k := 1000) cal.f46 (text_owns t h9) rfl rfl rfl rfl (by simp only [bflat_a, nres.flat, tres.flat, ires.flat, urows.flat, brow_flat, trows_flat]) (brow_flat _) (by simp -dsimp (decide := true) (maxSteps := 1000000) (disch := first | omega | simp (decide := true) only [bdset_a, nres.flat, tres.flat, ires.flat, urows.flat, urows_length, brow_len, urow_len, brow_flat, trows_flat, trows_length, trow_len]) only [brun_a, ↓brun_b, envOf, reduceIte, Nat.reduceEqDiff, Nat.reduceAdd, Nat.reduceSub, Nat.reduceMul, Nat.reduceBEq, Nat.reduceLeDiff, Nat.reduceLT, beq_self_eq_true, cond_true, cond_false, Int.reduceToNat, tab.u3, tab.s3, tab.a3, tab.u5, tab.s5, tab.a5, tab.u9, tab.s9, tab.a9, tab.u35, tab.s35, tab.a35, tab.u36, tab.s36, tab.a36, tab.u43, tab.s43, tab.a43, tab.u44, tab.s44, tab.a44]) ?_
          have hl4 : (form t.length ++ t).length = (form t.length).length + t.length := List.length_append
          simp -dsimp (decide := true) (maxSteps := 1000000) (disch := first | omega | simp (decide := true) only [bdset_a, nres.flat, tres.flat, ires.flat, urows.flat, urows_length, brow_len, urow_len, brow_flat, trows_flat, trows_length, trow_len]) only [brun_a, ↓brun_b, envOf, reduceIte, Nat.reduceEqDiff, Nat.reduceAdd, Nat.reduceSub, Nat.reduceMul, Nat.reduceBEq, Nat.reduceLeDiff, Nat.reduceLT, beq_self_eq_true, cond_true, cond_false, Int.reduceToNat, tab.u3, tab.s3, tab.a3, tab.u5, tab.s5, tab.a5, tab.u9, tab.s9, tab.a9, tab.u35, tab.s35, tab.a35, tab.u36, tab.s36, tab.a36, tab.u43, tab.s43, tab.a43, tab.u44, tab.s44, tab.a44, brow_len, brow_cell, brows_at, urows_length, urows_at, urow_cell, urow_len, trows_length, trows_at, trow_cell, trow_len, hw, sapp1_sl el5]
          refine And.intro (by omega) ⟨⟨k + 1, by omega⟩, [0, 3], ?_, by show ts.length - (k + 1) < ts.length - k; omega⟩
          have hl2 : (acc ++ form t.length ++ t).length = acc.length + (form t.length ++ t).length := by rw [List.append_assoc, List.length_append]
          (refine Wk.ofC ?_; simp -dsimp (decide := true) (maxSteps := 1000000) (disch := first | omega | simp (decide := true) only [bdset_a, nres.flat, tres.flat, ires.flat, urows.flat, urows_length, brow_len, urow_len, brow_flat, trows_flat, trows_length, trow_len]) only [brun_a, ↓brun_b, envOf, reduceIte, Nat.reduceEqDiff, Nat.reduceAdd, Nat.reduceSub, Nat.reduceMul, Nat.reduceBEq, Nat.reduceLeDiff, Nat.reduceLT, beq_self_eq_true, cond_true, cond_false, Int.reduceToNat, tab.u3, tab.s3, tab.a3, tab.u5, tab.s5, tab.a5, tab.u9, tab.s9, tab.a9, tab.u35, tab.s35, tab.a35, tab.u36, tab.s36, tab.a36, tab.u43, tab.s43, tab.a43, tab.u44, tab.s44, tab.a44, brow_len, brow_cell, brows_at, urows_length, urows_at, urow_cell, urow_len, trows_length, trows_at, trow_cell, trow_len, hpt, hl2, bwk_a, frz1, eq_self, implies_true, rho, ↓reduceIte, forall_const])
          intro e he
          rw [brow_app2 _ _ e he, List.append_assoc]
          exact EntL.self rfl
        · simp only [decide_eq_false_iff_not] at h
          obtain rfl : k = ts.length := by omega
          have hft : ts.take ts.length = ts := List.take_length
          simp -dsimp (decide := true) (maxSteps := 1000000) (disch := first | omega | simp (decide := true) only [bdset_a, nres.flat, tres.flat, ires.flat, urows.flat, urows_length, brow_len, urow_len, brow_flat, trows_flat, trows_length, trow_len]) only [brun_a, ↓brun_b, envOf, reduceIte, Nat.reduceEqDiff, Nat.reduceAdd, Nat.reduceSub, Nat.reduceMul, Nat.reduceBEq, Nat.reduceLeDiff, Nat.reduceLT, beq_self_eq_true, cond_true, cond_false, Int.reduceToNat, tab.u3, tab.s3, tab.a3, tab.u5, tab.s5, tab.a5, tab.u9, tab.s9, tab.a9, tab.u35, tab.s35, tab.a35, tab.u36, tab.s36, tab.a36, tab.u43, tab.s43, tab.a43, tab.u44, tab.s44, tab.a44, brow_len, brow_cell, brows_at, urows_length, urows_at, urow_cell, urow_len, trows_length, trows_at, trow_cell, trow_len, hft]
          refine Sem.draw' (by kernel_rfl) (.alt 0 (.one 1 (.one 2 (.one 5 (.one 6 (.alt 3 (.one 4 (.one 7 (.one 8 (.one 9 (.one 10 (.one 13 (.one 14 (.alt 11 (.one 12 (.one 15 (.one 16 (.one 17 .done)))) .non)))))))) .non))))) .non) [] (by kernel_rfl) (fun G ff hG hf => ?_)
          simp (decide := true) only [roL_in, roL_row, roL_nil, roL_none, ro_mk, Nat.zero_add, Nat.reduceAdd, List.length_cons, List.length_nil] at hG ⊢
          simp -dsimp (decide := true) (maxSteps := 1000000) (disch := first | omega | simp (decide := true) only [bdset_a, nres.flat, tres.flat, ires.flat, urows.flat, urows_length, brow_len, urow_len, brow_flat, trows_flat, trows_length, trow_len]) only [brun_a, ↓brun_b, envOf, reduceIte, Nat.reduceEqDiff, Nat.reduceAdd, Nat.reduceSub, Nat.reduceMul, Nat.reduceBEq, Nat.reduceLeDiff, Nat.reduceLT, beq_self_eq_true, cond_true, cond_false, Int.reduceToNat, tab.u3, tab.s3, tab.a3, tab.u5, tab.s5, tab.a5, tab.u9, tab.s9, tab.a9, tab.u35, tab.s35, tab.a35, tab.u36, tab.s36, tab.a36, tab.u43, tab.s43, tab.a43, tab.u44, tab.s44, tab.a44, brow_len, brow_cell, brows_at, urows_length, urows_at, urow_cell, urow_len, trows_length, trows_at, trow_cell, trow_len, hG]
          refine OpSem.callq cal.f43 (fixed3_calls) rfl rfl rfl (by simp only [bflat_a, nres.flat, tres.flat, ires.flat, urows.flat, brow_flat, trows_flat]) (by simp only [bflat_a, nres.flat, tres.flat, ires.flat, urows.flat, brow_flat, trows_flat]) (by simp -dsimp (decide := true) (maxSteps := 1000000) (disch := first | omega | simp (decide := true) only [bdset_a, nres.flat, tres.flat, ires.flat, urows.flat, urows_length, brow_len, urow_len, brow_flat, trows_flat, trows_length, trow_len]) only [brun_a, ↓brun_b, envOf, reduceIte, Nat.reduceEqDiff, Nat.reduceAdd, Nat.reduceSub, Nat.reduceMul, Nat.reduceBEq, Nat.reduceLeDiff, Nat.reduceLT, beq_self_eq_true, cond_true, cond_false, Int.reduceToNat, tab.u3, tab.s3, tab.a3, tab.u5, tab.s5, tab.a5, tab.u9, tab.s9, tab.a9, tab.u35, tab.s35, tab.a35, tab.u36, tab.s36, tab.a36, tab.u43, tab.s43, tab.a43, tab.u44, tab.s44, tab.a44]) ?_
          simp -dsimp (decide := true) (maxSteps := 1000000) (disch := first | omega | simp (decide := true) only [bdset_a, nres.flat, tres.flat, ires.flat, urows.flat, urows_length, brow_len, urow_len, brow_flat, trows_flat, trows_length, trow_len]) only [brun_a, ↓brun_b, envOf, reduceIte, Nat.reduceEqDiff, Nat.reduceAdd, Nat.reduceSub, Nat.reduceMul, Nat.reduceBEq, Nat.reduceLeDiff, Nat.reduceLT, beq_self_eq_true, cond_true, cond_false, Int.reduceToNat, tab.u3, tab.s3, tab.a3, tab.u5, tab.s5, tab.a5, tab.u9, tab.s9, tab.a9, tab.u35, tab.s35, tab.a35, tab.u36, tab.s36, tab.a36, tab.u43, tab.s43, tab.a43, tab.u44, tab.s44, tab.a44, brow_len, brow_cell, brows_at, urows_length, urows_at, urow_cell, urow_len, trows_length, trows_at, trow_cell, trow_len, hG]
          obtain ⟨u1, u2⟩ := bytesOfRow_eq (ns.flatMap form).length false 5 (brow (ns.flatMap form)) 0 (ns.flatMap form).length (ns.flatMap form) rfl (fun i hi => by rw [Nat.zero_add]; rfl)
          obtain ⟨u3, u4⟩ := bytesOfRow_eq (ptexts ts).length false 5 (brow (ptexts ts)) 0 (ptexts ts).length (ptexts ts) rfl (fun i hi => by rw [Nat.zero_add]; rfl)
          refine And.intro (And.intro (Nat.le_refl _) u2) ?_
          refine OpSem.callq cal.f44 (putNum_calls ns hn hb) rfl rfl rfl (by simp only [bflat_a, nres.flat, tres.flat, ires.flat, urows.flat, brow_flat, trows_flat]) (by simp only [bflat_a, nres.flat, tres.flat, ires.flat, urows.flat, brow_flat, trows_flat]) (by simp -dsimp (decide := true) (maxSteps := 1000000) (disch := first | omega | simp (decide := true) only [bdset_a, nres.flat, tres.flat, ires.flat, urows.flat, urows_length, brow_len, urow_len, brow_flat, trows_flat, trows_length, trow_len]) only [brun_a, ↓brun_b, envOf, reduceIte, Nat.reduceEqDiff, Nat.reduceAdd, Nat.reduceSub, Nat.reduceMul, Nat.reduceBEq, Nat.reduceLeDiff, Nat.reduceLT, beq_self_eq_true, cond_true, cond_false, Int.reduceToNat, tab.u3, tab.s3, tab.a3, tab.u5, tab.s5, tab.a5, tab.u9, tab.s9, tab.a9, tab.u35, tab.s35, tab.a35, tab.u36, tab.s36, tab.a36, tab.u43, tab.s43, tab.a43, tab.u44, tab.s44, tab.a44]) ?_
          simp -dsimp (decide := true) (maxSteps := 1000000) (disch := first | omega | simp (decide := true) only [bdset_a, nres.flat, tres.flat, ires.flat, urows.flat, urows_length, brow_len, urow_len, brow_flat, trows_flat, trows_length, trow_len]) only [brun_a, ↓brun_b, envOf, reduceIte, Nat.reduceEqDiff, Nat.reduceAdd, Nat.reduceSub, Nat.reduceMul, Nat.reduceBEq, Nat.reduceLeDiff, Nat.reduceLT, beq_self_eq_true, cond_true, cond_false, Int.reduceToNat, tab.u3, tab.s3, tab.a3, tab.u5, tab.s5, tab.a5, tab.u9, tab.s9, tab.a9, tab.u35, tab.s35, tab.a35, tab.u36, tab.s36, tab.a36, tab.u43, tab.s43, tab.a43, tab.u44, tab.s44, tab.a44, brow_len, brow_cell, brows_at, urows_length, urows_at, urow_cell, urow_len, trows_length, trows_at, trow_cell, trow_len, hG, u1]
          refine And.intro (And.intro (Nat.le_refl _) u4) ?_
          refine OpSem.callq cal.f47 (putText_calls ts (by omega) hts) rfl rfl rfl (by simp only [bflat_a, nres.flat, tres.flat, ires.flat, urows.flat, brow_flat, trows_flat]) (by simp only [bflat_a, nres.flat, tres.flat, ires.flat, urows.flat, brow_flat, trows_flat]) (by simp -dsimp (decide := true) (maxSteps := 1000000) (disch := first | omega | simp (decide := true) only [bdset_a, nres.flat, tres.flat, ires.flat, urows.flat, urows_length, brow_len, urow_len, brow_flat, trows_flat, trows_length, trow_len]) only [brun_a, ↓brun_b, envOf, reduceIte, Nat.reduceEqDiff, Nat.reduceAdd, Nat.reduceSub, Nat.reduceMul, Nat.reduceBEq, Nat.reduceLeDiff, Nat.reduceLT, beq_self_eq_true, cond_true, cond_false, Int.reduceToNat, tab.u3, tab.s3, tab.a3, tab.u5, tab.s5, tab.a5, tab.u9, tab.s9, tab.a9, tab.u35, tab.s35, tab.a35, tab.u36, tab.s36, tab.a36, tab.u43, tab.s43, tab.a43, tab.u44, tab.s44, tab.a44]) ?_
          simp -dsimp (decide := true) (maxSteps := 1000000) (disch := first | omega | simp (decide := true) only [bdset_a, nres.flat, tres.flat, ires.flat, urows.flat, urows_length, brow_len, urow_len, brow_flat, trows_flat, trows_length, trow_len]) only [brun_a, ↓brun_b, envOf, reduceIte, Nat.reduceEqDiff, Nat.reduceAdd, Nat.reduceSub, Nat.reduceMul, Nat.reduceBEq, Nat.reduceLeDiff, Nat.reduceLT, beq_self_eq_true, cond_true, cond_false, Int.reduceToNat, tab.u3, tab.s3, tab.a3, tab.u5, tab.s5, tab.a5, tab.u9, tab.s9, tab.a9, tab.u35, tab.s35, tab.a35, tab.u36, tab.s36, tab.a36, tab.u43, tab.s43, tab.a43, tab.u44, tab.s44, tab.a44, brow_len, brow_cell, brows_at, urows_length, urows_at, urow_cell, urow_len, trows_length, trows_at, trow_cell, trow_len, hG, u3]
          refine hf _ (Sem.go (k := 1000) ?_)
          simp (decide := true) only [back_mk, backL_in, backL_row, backL_none, backL_nil, Nat.zero_add, Nat.reduceAdd]
          simp -dsimp (decide := true) (maxSteps := 1000000) (disch := first | omega | simp (decide := true) only [bdset_a, nres.flat, tres.flat, ires.flat, urows.flat, urows_length, brow_len, urow_len, brow_flat, trows_flat, trows_length, trow_len]) only [brun_a, ↓brun_b, envOf, reduceIte, Nat.reduceEqDiff, Nat.reduceAdd, Nat.reduceSub, Nat.reduceMul, Nat.reduceBEq, Nat.reduceLeDiff, Nat.reduceLT, beq_self_eq_true, cond_true, cond_false, Int.reduceToNat, tab.u3, tab.s3, tab.a3, tab.u5, tab.s5, tab.a5, tab.u9, tab.s9, tab.a9, tab.u35, tab.s35, tab.a35, tab.u36, tab.s36, tab.a36, tab.u43, tab.s43, tab.a43, tab.u44, tab.s44, tab.a44, brow_len, brow_cell, brows_at, urows_length, urows_at, urow_cell, urow_len, trows_length, trows_at, trow_cell, trow_len]
          refine SQ.answer (rs := [.tmp 4]) rfl rfl ?_
          simp -dsimp (decide := true) (maxSteps := 1000000) (disch := first | omega | simp (decide := true) only [bdset_a, nres.flat, tres.flat, ires.flat, urows.flat, urows_length, brow_len, urow_len, brow_flat, trows_flat, trows_length, trow_len]) only [brun_a, ↓brun_b, envOf, reduceIte, Nat.reduceEqDiff, Nat.reduceAdd, Nat.reduceSub, Nat.reduceMul, Nat.reduceBEq, Nat.reduceLeDiff, Nat.reduceLT, beq_self_eq_true, cond_true, cond_false, Int.reduceToNat, tab.u3, tab.s3, tab.a3, tab.u5, tab.s5, tab.a5, tab.u9, tab.s9, tab.a9, tab.u35, tab.s35, tab.a35, tab.u36, tab.s36, tab.a36, tab.u43, tab.s43, tab.a43, tab.u44, tab.s44, tab.a44, bwk_a, frz1, eq_self, implies_true, rho, ↓reduceIte, forall_const]
theorem cls_nums {n : Nat} {l : List SV} (h : ClsC Try.prog (n + 2) 43 l) : ∃ ns : List Nat, l = [.rsl 1 (urows ns)] ∧ (∀ m ∈ ns, m < 18446744073709551616) := by
  unfold ClsC at h
  rw [tab.u43] at h
  obtain ⟨rows, rfl, hb, hp⟩ := h
  have hc : Try.prog.cellsOf 36 = 1 := by kernel_rfl
  rw [hc]
  clear hb
  induction rows with
  | nil => exact ⟨[], rfl, by simp⟩
  | cons r rows ih =>
    obtain ⟨ns, h1, h3⟩ := ih fun r hr => hp r (by simp [hr])
    obtain ⟨a, h2, h4⟩ := cls_u64 (hp r (by simp))
    have h5 : rows = urows ns := by simpa using h1
    refine ⟨a :: ns, by rw [h2, h5]; rfl, fun m hm => ?_⟩
    rcases List.mem_cons.1 hm with rfl | hm
    · exact h4
    · exact h3 m hm
theorem cls_texts {n : Nat} {l : List SV} (h : ClsC Try.prog (n + 3) 44 l) : ∃ ts : List (List UInt8), l = [.rsl 1 (trows ts)] := by
  unfold ClsC at h
  rw [tab.u44] at h
  obtain ⟨rows, rfl, hb, hp⟩ := h
  have hc : Try.prog.cellsOf 35 = 1 := by kernel_rfl
  rw [hc]
  clear hb
  induction rows with
  | nil => exact ⟨[], rfl⟩
  | cons r rows ih =>
    obtain ⟨ts, h1⟩ := ih fun r hr => hp r (by simp [hr])
    obtain ⟨a, h2, _⟩ := cls_bytes (hp r (by simp))
    have h5 : rows = trows ts := by simpa using h1
    exact ⟨a :: ts, by rw [h2, h5]; rfl⟩
theorem ptexts_bound (ts : List (List UInt8)) (m : Nat) (hm : m ≤ 1048576) (h : ∀ t ∈ ts, t.length ≤ m) : (ptexts ts).length ≤ ts.length * (m + 9) := by
  induction ts with
  | nil => simp [ptexts]
  | cons t ts ih =>
    have h1 := ih fun u hu => h u (by simp [hu])
    have h2 := h t (by simp)
    have h3 := form_length t.length
    have h4 := wide_le8 t.length (by omega)
    rw [ptexts, List.flatMap_cons, List.length_append, List.length_append, List.length_cons, Nat.add_mul]
    rw [ptexts] at h1
    omega
theorem wirePuts_law (l0 l1 : List SV) (h0 : ClsC Try.prog 20 43 l0) (h1 : ClsC Try.prog 20 44 l1) (z0 : ∀ s rows, cellAt l0 0 = .rsl s rows → rows.length ≤ 1048576) (z1 : ∀ s rows, cellAt l1 0 = .rsl s rows → rows.length ≤ 1048576)
    (w1 : ∀ rows, cellAt l1 0 = .rsl 1 rows → ∀ (i s : Nat) rows', rows[i]? = some [.rsl s rows'] → rows'.length ≤ 1048576) : Pure Try.prog 7 [cellAt l0 0, cellAt l1 0] (.v (.bool true)) := by
  obtain ⟨ns, rfl, hn⟩ := cls_nums h0
  obtain ⟨ts, rfl⟩ := cls_texts h1
  have y0 := z0 _ _ rfl
  have y1 := z1 _ _ rfl
  rw [urows_length] at y0
  rw [trows_length] at y1
  have hlen : ∀ t ∈ ts, t.length ≤ 1048576 := fun t ht => by
    obtain ⟨i, hi⟩ := List.getElem?_of_mem ht
    have := w1 _ rfl i 1 (brows t) (by rw [trows, List.getElem?_map, hi]; rfl)
    rwa [brows_length] at this
  have hb := ptexts_bound ts 1048576 (Nat.le_refl _) hlen
  have hm : ts.length * (1048576 + 9) ≤ 1048576 * (1048576 + 9) := Nat.mul_le_mul_right _ y1
  exact puts_calls ns ts hn (by omega) (by omega) (by omega)
end Go.Proofs
