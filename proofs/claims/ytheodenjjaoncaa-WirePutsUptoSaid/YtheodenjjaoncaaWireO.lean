/- WireBack, told of values that are not too long. -/
import Derived.Test.YtheodenjjaoncaaWireN
set_option linter.unusedVariables false
set_option linter.unusedSimpArgs false
namespace Go.Proofs
open Go Go.SL
set_option maxRecDepth 100000
theorem brow_app2 (a f : List UInt8) (i : Nat) (hi : i < a.length + f.length) : (if i < a.length then brow a i else brow f (i - a.length)) = brow (a ++ f) i := by
  by_cases h2 : i < a.length
  · rw [if_pos h2]
    simp only [brow, List.getD_eq_getElem?_getD]
    rw [List.getElem?_append_left h2]
  · rw [if_neg h2]
    simp only [brow, List.getD_eq_getElem?_getD]
    rw [List.getElem?_append_right (by omega)]
theorem brow_app2r (a f : List UInt8) (i : Nat) (hi : i < a.length + f.length) : (if i < a.length then brow a i else (brows f).getD (i - a.length) []) = brow (a ++ f) i := by
  rw [← brow_app2 a f i hi]
  by_cases h : i < a.length
  · rw [if_pos h, if_pos h]
  · rw [if_neg h, if_neg h, brows_at _ _ (by omega)]
theorem back3_calls (n : Nat) (t pre : List UInt8) (hn : n < 18446744073709551616) (hb : pre.length + t.length + 18 ≤ 140737488355328) : Pure Try.prog 15 [.v (.int .u64 (n : Int)), bsl t, bsl pre] (.v (.bool true)) := by
  have hfn := form_length n
  have hwn := wide_le8 n hn
  have hft := form_length t.length
  have hwt := wide_le8 t.length (by omega)
  have hln : ∀ m ∈ [n], m < 18446744073709551616 := fun m hm => by
    rw [List.mem_singleton.1 hm]
    exact hn
  refine SCall.mk (fn := Try.f15) (by kernel_rfl) rfl (Nat.le_of_ble_eq_true (by kernel_rfl)) ?_
  refine Sem.go (k := 1000) ?_
  simp -dsimp (decide := true) (maxSteps := 1000000) (disch := first | omega | simp (decide := true) only [bdset_a, nres.flat, tres.flat, ires.flat, urows.flat, urows_length, brow_len, urow_len, brow_flat, trows_flat, trows_length, trow_len]) only [brun_a, ↓brun_b, envOf, reduceIte, Nat.reduceEqDiff, Nat.reduceAdd, Nat.reduceSub, Nat.reduceMul, Nat.reduceBEq, Nat.reduceLeDiff, Nat.reduceLT, beq_self_eq_true, cond_true, cond_false, Int.reduceToNat, tab.u3, tab.s3, tab.a3, tab.u5, tab.s5, tab.a5, tab.u9, tab.s9, tab.a9, tab.u35, tab.s35, tab.a35, tab.u36, tab.s36, tab.a36, tab.u37, tab.s37, tab.a37, tab.u43, tab.s43, tab.a43, tab.u44, tab.s44, tab.a44, brow_len, brow_cell, brows_at, urows_length, urows_at, urow_cell, urow_len, trows_length, trows_at, trow_cell, trow_len, bs35_0, bs43_1, sapp1_sl el5]
  refine And.intro (by omega) ?_
  have hl9 : [n].length * 9 ≤ 140737488355328 := by
    rw [List.length_singleton]
    omega
  refine SemOps.frz (d := 19) (urows [n]) rfl rfl rfl (by omega) (fun i r h => ent_ucells h) ?_
  refine SemOps.callq (k := 1000) cal.f44 (putNum_calls [n] hln hl9) rfl rfl rfl rfl (by simp only [bflat_a, nres.flat, tres.flat, ires.flat, urows.flat, brow_flat, trows_flat]) (by simp only [bflat_a, nres.flat, tres.flat, ires.flat, urows.flat, brow_flat, trows_flat]) (by simp -dsimp (decide := true) (maxSteps := 1000000) (disch := first | omega | simp (decide := true) only [bdset_a, nres.flat, tres.flat, ires.flat, urows.flat, urows_length, brow_len, urow_len, brow_flat, trows_flat, trows_length, trow_len]) only [brun_a, ↓brun_b, envOf, reduceIte, Nat.reduceEqDiff, Nat.reduceAdd, Nat.reduceSub, Nat.reduceMul, Nat.reduceBEq, Nat.reduceLeDiff, Nat.reduceLT, beq_self_eq_true, cond_true, cond_false, Int.reduceToNat, tab.u3, tab.s3, tab.a3, tab.u5, tab.s5, tab.a5, tab.u9, tab.s9, tab.a9, tab.u35, tab.s35, tab.a35, tab.u36, tab.s36, tab.a36, tab.u37, tab.s37, tab.a37, tab.u43, tab.s43, tab.a43, tab.u44, tab.s44, tab.a44]) ?_
  simp -dsimp (decide := true) (maxSteps := 1000000) (disch := first | omega | simp (decide := true) only [bdset_a, nres.flat, tres.flat, ires.flat, urows.flat, urows_length, brow_len, urow_len, brow_flat, trows_flat, trows_length, trow_len]) only [brun_a, ↓brun_b, envOf, reduceIte, Nat.reduceEqDiff, Nat.reduceAdd, Nat.reduceSub, Nat.reduceMul, Nat.reduceBEq, Nat.reduceLeDiff, Nat.reduceLT, beq_self_eq_true, cond_true, cond_false, Int.reduceToNat, tab.u3, tab.s3, tab.a3, tab.u5, tab.s5, tab.a5, tab.u9, tab.s9, tab.a9, tab.u35, tab.s35, tab.a35, tab.u36, tab.s36, tab.a36, tab.u37, tab.s37, tab.a37, tab.u43, tab.s43, tab.a43, tab.u44, tab.s44, tab.a44, brow_len, brow_cell, brows_at, urows_length, urows_at, urow_cell, urow_len, trows_length, trows_at, trow_cell, trow_len, List.flatMap_cons, List.flatMap_nil, List.append_nil, sapp1_sl el5]
  refine And.intro (by omega) ?_
  have hq : getNum (pre ++ form n) pre.length = (n, (pre.length : Int) + (form n).length, 0) := by
    have := getNum_form pre [] n hn
    rwa [List.append_nil] at this
  have hql : (pre ++ form n).length = pre.length + (form n).length := List.length_append
  have hqe := brow_app2r pre (form n)
  have hrd := getNum_reads (pre ++ form n) pre.length (by omega) (by omega)
  rw [hq] at hrd
  generalize pre ++ form n = q at *
  rw [← hql]
  refine SemOps.weaken (s' := ⟨79, 0, [(0, .v (.int .u64 (n : Int))), (1, bsl t), (7, .slc 0 0 q.length), (23, .slc 0 0 q.length), (25, .v (.int .i64 (pre.length : Int)))], [some (.row ⟨1, q.length, true, 5, brow q⟩)]⟩) [3] ?_ ?_
  · (refine Wk.ofC ?_; simp -dsimp (decide := true) (maxSteps := 1000000) (disch := first | omega | simp (decide := true) only [bdset_a, nres.flat, tres.flat, ires.flat, urows.flat, urows_length, brow_len, urow_len, brow_flat, trows_flat, trows_length, trow_len]) only [brun_a, ↓brun_b, envOf, reduceIte, Nat.reduceEqDiff, Nat.reduceAdd, Nat.reduceSub, Nat.reduceMul, Nat.reduceBEq, Nat.reduceLeDiff, Nat.reduceLT, beq_self_eq_true, cond_true, cond_false, Int.reduceToNat, tab.u3, tab.s3, tab.a3, tab.u5, tab.s5, tab.a5, tab.u9, tab.s9, tab.a9, tab.u35, tab.s35, tab.a35, tab.u36, tab.s36, tab.a36, tab.u37, tab.s37, tab.a37, tab.u43, tab.s43, tab.a43, tab.u44, tab.s44, tab.a44, brow_len, brow_cell, brows_at, urows_length, urows_at, urow_cell, urow_len, trows_length, trows_at, trow_cell, trow_len, hql, bwk_a, frz1, eq_self, implies_true, rho, ↓reduceIte, forall_const])
    intro e he
    have h1 := hqe e he
    simp only [Nat.not_lt_zero, if_false, Nat.sub_zero] at h1 ⊢
    rw [h1]
    exact EntL.self rfl
  refine SemOps.callr (k := 1000) rfl rfl rfl (fn := Try.f42) (by kernel_rfl) rfl (by kernel_rfl) [0] hrd rfl rfl (fun ρ => SV.flat_ren ρ _ (nres.flat _)) (by decide) (And.intro (And.intro rfl (And.intro rfl (And.intro rfl (And.intro (fun _ => rfl) (fun e _ => EntL.self (brow_flat _ _)))))) trivial) (by simp -dsimp (decide := true) (maxSteps := 1000000) (disch := first | omega | simp (decide := true) only [bdset_a, nres.flat, tres.flat, ires.flat, urows.flat, urows_length, brow_len, urow_len, brow_flat, trows_flat, trows_length, trow_len]) only [brun_a, ↓brun_b, envOf, reduceIte, Nat.reduceEqDiff, Nat.reduceAdd, Nat.reduceSub, Nat.reduceMul, Nat.reduceBEq, Nat.reduceLeDiff, Nat.reduceLT, beq_self_eq_true, cond_true, cond_false, Int.reduceToNat, tab.u3, tab.s3, tab.a3, tab.u5, tab.s5, tab.a5, tab.u9, tab.s9, tab.a9, tab.u35, tab.s35, tab.a35, tab.u36, tab.s36, tab.a36, tab.u37, tab.s37, tab.a37, tab.u43, tab.s43, tab.a43, tab.u44, tab.s44, tab.a44]) ?_
  have hq9 : (pre.length : Int) + ((form n).length : Int) = (q.length : Int) := by omega
  simp -dsimp (decide := true) (maxSteps := 1000000) (disch := first | omega | simp (decide := true) only [bdset_a, nres.flat, tres.flat, ires.flat, urows.flat, urows_length, brow_len, urow_len, brow_flat, trows_flat, trows_length, trow_len]) only [brun_a, ↓brun_b, envOf, reduceIte, Nat.reduceEqDiff, Nat.reduceAdd, Nat.reduceSub, Nat.reduceMul, Nat.reduceBEq, Nat.reduceLeDiff, Nat.reduceLT, beq_self_eq_true, cond_true, cond_false, Int.reduceToNat, tab.u3, tab.s3, tab.a3, tab.u5, tab.s5, tab.a5, tab.u9, tab.s9, tab.a9, tab.u35, tab.s35, tab.a35, tab.u36, tab.s36, tab.a36, tab.u37, tab.s37, tab.a37, tab.u43, tab.s43, tab.a43, tab.u44, tab.s44, tab.a44, brow_len, brow_cell, brows_at, urows_length, urows_at, urow_cell, urow_len, trows_length, trows_at, trow_cell, trow_len, nres, bs35_0, bs44_1, sapp1_sl el5, hq9]
  have hpt : ptexts [t] = form t.length ++ t := by rw [ptexts, List.flatMap_cons, List.flatMap_nil, List.append_nil]
  have hptl : (ptexts [t]).length = (form t.length).length + t.length := by rw [hpt, List.length_append]
  refine And.intro (by omega) ?_
  refine SemOps.frz (d := 34) (trows [t]) rfl rfl rfl (by omega) (fun i r h => ent_trow1 h) ?_
  refine SemOps.callo (k := 1000) cal.f47 (putText_owns [t] (by omega) (by rw [List.length_singleton]; omega)) rfl rfl rfl rfl (by simp only [bflat_a, nres.flat, tres.flat, ires.flat, urows.flat, brow_flat, trows_flat]) (brow_flat _) (by simp -dsimp (decide := true) (maxSteps := 1000000) (disch := first | omega | simp (decide := true) only [bdset_a, nres.flat, tres.flat, ires.flat, urows.flat, urows_length, brow_len, urow_len, brow_flat, trows_flat, trows_length, trow_len]) only [brun_a, ↓brun_b, envOf, reduceIte, Nat.reduceEqDiff, Nat.reduceAdd, Nat.reduceSub, Nat.reduceMul, Nat.reduceBEq, Nat.reduceLeDiff, Nat.reduceLT, beq_self_eq_true, cond_true, cond_false, Int.reduceToNat, tab.u3, tab.s3, tab.a3, tab.u5, tab.s5, tab.a5, tab.u9, tab.s9, tab.a9, tab.u35, tab.s35, tab.a35, tab.u36, tab.s36, tab.a36, tab.u37, tab.s37, tab.a37, tab.u43, tab.s43, tab.a43, tab.u44, tab.s44, tab.a44]) ?_
  simp -dsimp (decide := true) (maxSteps := 1000000) (disch := first | omega | simp (decide := true) only [bdset_a, nres.flat, tres.flat, ires.flat, urows.flat, urows_length, brow_len, urow_len, brow_flat, trows_flat, trows_length, trow_len]) only [brun_a, ↓brun_b, envOf, reduceIte, Nat.reduceEqDiff, Nat.reduceAdd, Nat.reduceSub, Nat.reduceMul, Nat.reduceBEq, Nat.reduceLeDiff, Nat.reduceLT, beq_self_eq_true, cond_true, cond_false, Int.reduceToNat, tab.u3, tab.s3, tab.a3, tab.u5, tab.s5, tab.a5, tab.u9, tab.s9, tab.a9, tab.u35, tab.s35, tab.a35, tab.u36, tab.s36, tab.a36, tab.u37, tab.s37, tab.a37, tab.u43, tab.s43, tab.a43, tab.u44, tab.s44, tab.a44, brow_len, brow_cell, brows_at, urows_length, urows_at, urow_cell, urow_len, trows_length, trows_at, trow_cell, trow_len, sapp1_sl el5]
  have hr2 : getText (q ++ ptexts [t]) q.length t.length = (t, (q.length : Int) + (form t.length).length + t.length, 0) := by
    have := getText_form q [] t (by omega)
    rwa [List.append_nil, ← hpt] at this
  have hvl : (q ++ ptexts [t]).length = q.length + (ptexts [t]).length := List.length_append
  have hve := brow_app2 q (ptexts [t])
  have hrd2 := getText_reads (q ++ ptexts [t]) q.length t.length (by omega) (by omega) (by omega)
  rw [hr2] at hrd2
  generalize q ++ ptexts [t] = v at *
  generalize ptexts [t] = z at *
  refine And.intro (by omega) ?_
  rw [← hvl]
  refine SemOps.weaken (s' := ⟨79, 0, [(0, .v (.int .u64 (n : Int))), (1, bsl t), (7, .slc 0 0 q.length), (8, .v (.int .u64 (n : Int))), (9, .v (.int .i64 (q.length : Int))), (10, .v (.int .i64 0)), (11, .slc 1 0 v.length), (38, .slc 1 0 v.length), (39, .v (.int .i64 (q.length : Int))), (41, .v (.int .i64 (t.length : Int)))], [some (.row ⟨1, q.length, true, 5, brow q⟩), some (.row ⟨1, v.length, true, 5, brow v⟩)]⟩) [0, 5] ?_ ?_
  · (refine Wk.ofC ?_; simp -dsimp (decide := true) (maxSteps := 1000000) (disch := first | omega | simp (decide := true) only [bdset_a, nres.flat, tres.flat, ires.flat, urows.flat, urows_length, brow_len, urow_len, brow_flat, trows_flat, trows_length, trow_len]) only [brun_a, ↓brun_b, envOf, reduceIte, Nat.reduceEqDiff, Nat.reduceAdd, Nat.reduceSub, Nat.reduceMul, Nat.reduceBEq, Nat.reduceLeDiff, Nat.reduceLT, beq_self_eq_true, cond_true, cond_false, Int.reduceToNat, tab.u3, tab.s3, tab.a3, tab.u5, tab.s5, tab.a5, tab.u9, tab.s9, tab.a9, tab.u35, tab.s35, tab.a35, tab.u36, tab.s36, tab.a36, tab.u37, tab.s37, tab.a37, tab.u43, tab.s43, tab.a43, tab.u44, tab.s44, tab.a44, brow_len, brow_cell, brows_at, urows_length, urows_at, urow_cell, urow_len, trows_length, trows_at, trow_cell, trow_len, hvl, bwk_a, frz1, eq_self, implies_true, rho, ↓reduceIte, forall_const])
    intro e he
    have h1 := hve e he
    rw [Nat.sub_zero, h1]
    exact EntL.self rfl
  refine SemOps.callr (k := 1000) rfl rfl rfl (fn := Try.f66) (by kernel_rfl) rfl (by kernel_rfl) [1] hrd2 rfl rfl (fun ρ => SV.flat_ren ρ _ (tres.flat _)) (by decide) (And.intro (And.intro rfl (And.intro rfl (And.intro rfl (And.intro (fun _ => rfl) (fun e _ => EntL.self (brow_flat _ _)))))) trivial) (by simp -dsimp (decide := true) (maxSteps := 1000000) (disch := first | omega | simp (decide := true) only [bdset_a, nres.flat, tres.flat, ires.flat, urows.flat, urows_length, brow_len, urow_len, brow_flat, trows_flat, trows_length, trow_len]) only [brun_a, ↓brun_b, envOf, reduceIte, Nat.reduceEqDiff, Nat.reduceAdd, Nat.reduceSub, Nat.reduceMul, Nat.reduceBEq, Nat.reduceLeDiff, Nat.reduceLT, beq_self_eq_true, cond_true, cond_false, Int.reduceToNat, tab.u3, tab.s3, tab.a3, tab.u5, tab.s5, tab.a5, tab.u9, tab.s9, tab.a9, tab.u35, tab.s35, tab.a35, tab.u36, tab.s36, tab.a36, tab.u37, tab.s37, tab.a37, tab.u43, tab.s43, tab.a43, tab.u44, tab.s44, tab.a44]) ?_
  have hq8 : (q.length : Int) + ((form t.length).length : Int) + (t.length : Int) = (v.length : Int) := by omega
  simp -dsimp (decide := true) (maxSteps := 1000000) (disch := first | omega | simp (decide := true) only [bdset_a, nres.flat, tres.flat, ires.flat, urows.flat, urows_length, brow_len, urow_len, brow_flat, trows_flat, trows_length, trow_len]) only [brun_a, ↓brun_b, envOf, reduceIte, Nat.reduceEqDiff, Nat.reduceAdd, Nat.reduceSub, Nat.reduceMul, Nat.reduceBEq, Nat.reduceLeDiff, Nat.reduceLT, beq_self_eq_true, cond_true, cond_false, Int.reduceToNat, tab.u3, tab.s3, tab.a3, tab.u5, tab.s5, tab.a5, tab.u9, tab.s9, tab.a9, tab.u35, tab.s35, tab.a35, tab.u36, tab.s36, tab.a36, tab.u37, tab.s37, tab.a37, tab.u43, tab.s43, tab.a43, tab.u44, tab.s44, tab.a44, brow_len, brow_cell, brows_at, urows_length, urows_at, urow_cell, urow_len, trows_length, trows_at, trow_cell, trow_len, tres, hq8]
  refine SemOps.callq (k := 1000) cal.f43 (fixed3_calls) rfl rfl rfl rfl (by simp only [bflat_a, nres.flat, tres.flat, ires.flat, urows.flat, brow_flat, trows_flat]) (by simp only [bflat_a, nres.flat, tres.flat, ires.flat, urows.flat, brow_flat, trows_flat]) (by simp -dsimp (decide := true) (maxSteps := 1000000) (disch := first | omega | simp (decide := true) only [bdset_a, nres.flat, tres.flat, ires.flat, urows.flat, urows_length, brow_len, urow_len, brow_flat, trows_flat, trows_length, trow_len]) only [brun_a, ↓brun_b, envOf, reduceIte, Nat.reduceEqDiff, Nat.reduceAdd, Nat.reduceSub, Nat.reduceMul, Nat.reduceBEq, Nat.reduceLeDiff, Nat.reduceLT, beq_self_eq_true, cond_true, cond_false, Int.reduceToNat, tab.u3, tab.s3, tab.a3, tab.u5, tab.s5, tab.a5, tab.u9, tab.s9, tab.a9, tab.u35, tab.s35, tab.a35, tab.u36, tab.s36, tab.a36, tab.u37, tab.s37, tab.a37, tab.u43, tab.s43, tab.a43, tab.u44, tab.s44, tab.a44]) ?_
  simp -dsimp (decide := true) (maxSteps := 1000000) (disch := first | omega | simp (decide := true) only [bdset_a, nres.flat, tres.flat, ires.flat, urows.flat, urows_length, brow_len, urow_len, brow_flat, trows_flat, trows_length, trow_len]) only [brun_a, ↓brun_b, envOf, reduceIte, Nat.reduceEqDiff, Nat.reduceAdd, Nat.reduceSub, Nat.reduceMul, Nat.reduceBEq, Nat.reduceLeDiff, Nat.reduceLT, beq_self_eq_true, cond_true, cond_false, Int.reduceToNat, tab.u3, tab.s3, tab.a3, tab.u5, tab.s5, tab.a5, tab.u9, tab.s9, tab.a9, tab.u35, tab.s35, tab.a35, tab.u36, tab.s36, tab.a36, tab.u37, tab.s37, tab.a37, tab.u43, tab.s43, tab.a43, tab.u44, tab.s44, tab.a44, brow_len, brow_cell, brows_at, urows_length, urows_at, urow_cell, urow_len, trows_length, trows_at, trow_cell, trow_len]
  refine SQ.answer (rs := [.tmp 6]) rfl rfl ?_
  simp -dsimp (decide := true) (maxSteps := 1000000) (disch := first | omega | simp (decide := true) only [bdset_a, nres.flat, tres.flat, ires.flat, urows.flat, urows_length, brow_len, urow_len, brow_flat, trows_flat, trows_length, trow_len]) only [brun_a, ↓brun_b, envOf, reduceIte, Nat.reduceEqDiff, Nat.reduceAdd, Nat.reduceSub, Nat.reduceMul, Nat.reduceBEq, Nat.reduceLeDiff, Nat.reduceLT, beq_self_eq_true, cond_true, cond_false, Int.reduceToNat, tab.u3, tab.s3, tab.a3, tab.u5, tab.s5, tab.a5, tab.u9, tab.s9, tab.a9, tab.u35, tab.s35, tab.a35, tab.u36, tab.s36, tab.a36, tab.u37, tab.s37, tab.a37, tab.u43, tab.s43, tab.a43, tab.u44, tab.s44, tab.a44, bwk_a, frz1, eq_self, implies_true, rho, ↓reduceIte, forall_const]
theorem wireBack_law (l0 l1 l2 : List SV) (h0 : ClsC Try.prog 20 36 l0) (h1 : ClsC Try.prog 20 35 l1) (h2 : ClsC Try.prog 20 35 l2) (z1 : ∀ s rows, cellAt l1 0 = .rsl s rows → rows.length ≤ 1048576) (z2 : ∀ s rows, cellAt l2 0 = .rsl s rows → rows.length ≤ 1048576) : Pure Try.prog 15 [cellAt l0 0, cellAt l1 0, cellAt l2 0] (.v (.bool true)) := by
  obtain ⟨n, rfl, hn⟩ := cls_u64 h0
  obtain ⟨t, rfl, _⟩ := cls_bytes h1
  obtain ⟨b, rfl, _⟩ := cls_bytes h2
  have y1 := z1 _ _ rfl
  have y2 := z2 _ _ rfl
  rw [brows_length] at y1 y2
  exact back3_calls n t b hn (by omega)
end Go.Proofs
