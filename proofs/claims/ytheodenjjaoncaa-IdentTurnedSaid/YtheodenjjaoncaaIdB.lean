/- Ordering and the way clockwise, of whole numbers: ident.Compare, ident.Sub. -/
import Derived.Test.YtheodenjjaoncaaIdA
set_option linter.unusedVariables false
set_option linter.unusedSimpArgs false
namespace Go.SL
open Go
theorem cmpI_three : ∀ (l m : List Int), cmpI l m = -1 ∨ cmpI l m = 0 ∨ cmpI l m = 1
  | [], [] => .inr (.inl rfl)
  | [], _ :: _ => .inl rfl
  | _ :: _, [] => .inr (.inr rfl)
  | a :: l, b :: m => by
    simp only [cmpI]
    split
    · exact .inl rfl
    · split
      · exact .inr (.inr rfl)
      · exact cmpI_three l m
/-- The order of what stays. -/
def cmpM (a b : Int) : Int := if md a < md b then -1 else if md b < md a then 1 else 0
theorem idv_cmp (a b : Int) : cmpI (idv a).l (idv b).l = cmpM a b := by
  obtain ⟨h1, h2, h3⟩ := cmpI_num (idv a).l (idv b).l (by rw [(idv a).len, (idv b).len]) (idv a).rng (idv b).rng
  rw [idv_num, idv_num] at h1
  rw [idv_l] at h2
  have h4 := cmpI_three (idv a).l (idv b).l
  unfold cmpM
  split
  · have := h1.2 (by assumption); omega
  · split
    · rename_i g1 g2
      have g3 : ¬ cmpI (idv a).l (idv b).l < 0 := fun h => g1 (h1.1 h)
      have g4 : ¬ cmpI (idv a).l (idv b).l = 0 := fun h => by have := h2.1 h; omega
      omega
    · rename_i g1 g2
      exact h2.2 (by omega)
theorem idc_cellsEq (a b : Int) : cellsEq (idc a) (idc b) = some (decide (md a = md b)) := by
  rw [idc_def, idc_def, Go.Proofs.I16.cellsEq]
  simp only [idv_l]
theorem splice_idc (n m : Int) : splice (idc n) 0 (idc m) = idc m := by
  simp [splice, idc_length, List.drop_of_length_le]
theorem bor_zero (a b : Int) : bor a b 0 = 0 := by simp [bor, Int.emod_one]
theorem dig_nil (n : Int) : dig 0 n = [] := Eq.trans rfl rfl
end Go.SL
namespace Go.Proofs
open Go Go.SL
set_option maxRecDepth 100000
theorem idc_flatEq (a b : Int) : FlatEq Try.prog 23 (idc a) (idc b) := by
  rw [idc_def, idc_def]
  exact flat23 _ _
theorem cmp_calls (a b : Int) : Pure Try.prog 72 [.agg (idc a), .agg (idc b)] (.v (.int .i64 (cmpM a b))) := by
  have := compare_calls (idv a) (idv b)
  rw [← idc_def, ← idc_def] at this
  rw [← idv_cmp]
  exact this
theorem lessN_calls (a b : Int) : Pure Try.prog 41 [.agg (idc a), .agg (idc b)] (.v (.bool (decide (md a < md b)))) := by
  have h := less_calls (idv a) (idv b)
  rw [← idc_def, ← idc_def] at h
  have e : I16.less (idv a) (idv b) = decide (md a < md b) := by
    rw [Bool.eq_iff_iff, less_key, decide_eq_true_iff, I16.key, I16.key, idv_num, idv_num]
  rw [e] at h
  exact h
theorem allocI (N : Nat) : sAlloc Try.prog N 23 = some ⟨.ptr N 0 0, ⟨none, some (.row ⟨16, 1, true, 23, fun _ => idc 0⟩)⟩, True⟩ := by
  rw [idc_def]
  exact sAlloc_eq N 23 _ tab.z23 rfl
theorem sub_calls (a b : Int) : Pure Try.prog 74 [.agg (idc a), .agg (idc b)] (.agg (idc (a - b))) := by
  refine SCall.mk (fn := Try.f74) (by kernel_rfl) rfl (Nat.le_of_ble_eq_true (by kernel_rfl)) ?_
  refine Sem.go (k := 1000) ?_
  simp -dsimp (decide := true) (maxSteps := 1000000) (disch := first | omega | simp (decide := true) only [bdset_a, idc_one, idc_flat, idc_length, cellsI_length, cellsI_flat]) only [brun_a, ↓brun_b, envOf, reduceIte, Nat.reduceEqDiff, Nat.reduceAdd, Nat.reduceSub, Nat.reduceMul, Nat.reduceBEq, Nat.reduceLeDiff, Nat.reduceLT, beq_self_eq_true, cond_true, cond_false, Int.reduceToNat, tab.u3, tab.s3, tab.a3, tab.u5, tab.s5, tab.a5, tab.u23, tab.s23, tab.a23, idc_part, idc_length, allocI]
  refine Sem.loop (ι := {k : Nat // k ≤ 16}) (fun k => ⟨36, 0, [(2, .ptr 0 0 0), (3, .ptr 1 0 0), (4, .ptr 2 0 0), (5, .ptr 3 0 0), (6, .v (.int .i64 (bor a b k.1))), (10, .v (.int .i64 (k.1 : Int)))],
    [some (.row ⟨16, 1, true, 23, fun _ => idc a⟩), some (.row ⟨16, 1, true, 23, fun _ => idc b⟩), some (.row ⟨16, 1, true, 23, fun _ => idc 0⟩), some (.row ⟨16, 1, true, 23, fun _ => cellsI (dig (16 - k.1) 0 ++ dig k.1 (a - b))⟩)]⟩) (fun k => 16 - k.1) ⟨0, by omega⟩ [0, 1, 2, 3] ?_ ?_
  · (refine Wk.ofC ?_; simp -dsimp (decide := true) (maxSteps := 1000000) (disch := first | omega | simp (decide := true) only [bdset_a, idc_one, idc_flat, idc_length, cellsI_length, cellsI_flat]) only [brun_a, ↓brun_b, envOf, reduceIte, Nat.reduceEqDiff, Nat.reduceAdd, Nat.reduceSub, Nat.reduceMul, Nat.reduceBEq, Nat.reduceLeDiff, Nat.reduceLT, beq_self_eq_true, cond_true, cond_false, Int.reduceToNat, tab.u3, tab.s3, tab.a3, tab.u5, tab.s5, tab.a5, tab.u23, tab.s23, tab.a23, idc_part, idc_length, allocI, bor_zero, dig_nil, cellsI_idc, bwk_a, frz1, eq_self, implies_true, rho, ↓reduceIte, forall_const])
  · rintro ⟨k, hk⟩
    refine Sem.go (k := 1000) ?_
    simp -dsimp (decide := true) (maxSteps := 1000000) (disch := first | omega | simp (decide := true) only [bdset_a, idc_one, idc_flat, idc_length, cellsI_length, cellsI_flat]) only [brun_a, ↓brun_b, envOf, reduceIte, Nat.reduceEqDiff, Nat.reduceAdd, Nat.reduceSub, Nat.reduceMul, Nat.reduceBEq, Nat.reduceLeDiff, Nat.reduceLT, beq_self_eq_true, cond_true, cond_false, Int.reduceToNat, tab.u3, tab.s3, tab.a3, tab.u5, tab.s5, tab.a5, tab.u23, tab.s23, tab.a23, idc_part, idc_length, allocI]
    refine SCond.split (fun h => ?_) (fun h => ?_)
    · simp only [decide_eq_true_eq] at h
      have hk' : k < 16 := by omega
      have hw1 : IntKind.i64.wrap (15 - (k : Int)) = ((15 - k : Nat) : Int) := by rw [wrap_i64 _ (by omega)]; omega
      simp -dsimp (decide := true) (maxSteps := 1000000) (disch := first | omega | simp (decide := true) only [bdset_a, idc_one, idc_flat, idc_length, cellsI_length, cellsI_flat]) only [brun_a, ↓brun_b, envOf, reduceIte, Nat.reduceEqDiff, Nat.reduceAdd, Nat.reduceSub, Nat.reduceMul, Nat.reduceBEq, Nat.reduceLeDiff, Nat.reduceLT, beq_self_eq_true, cond_true, cond_false, Int.reduceToNat, tab.u3, tab.s3, tab.a3, tab.u5, tab.s5, tab.a5, tab.u23, tab.s23, tab.a23, idc_part, idc_length, allocI, hw1]
      refine Sem.draw' (by kernel_rfl) (.one 0 (.one 1 (.one 2 (.one 3 (.one 4 (.one 5 (.one 6 (.one 7 (.one 8 (.one 9 (.one 10 (.one 11 .done)))))))))))) [] (by kernel_rfl) (fun G ff hG hf => ?_)
      simp (decide := true) only [roL_in, roL_row, roL_nil, roL_none, ro_mk, Nat.zero_add, Nat.reduceAdd, List.length_cons, List.length_nil] at hG ⊢
      have hca := idc_cell a k hk'
      have hcb := idc_cell b k hk'
      obtain ⟨hb1, hb2⟩ := bor_step a b k
      have hset := sub_set (a - b) k hk' _ rfl
      have hl1 : (dig (16 - k) 0 ++ dig k (a - b)).length = 16 := by rw [List.length_append, dig_length, dig_length]; omega
      have hx : 0 ≤ a / 256 ^ k % 256 ∧ a / 256 ^ k % 256 < 256 := by omega
      have hy : 0 ≤ b / 256 ^ k % 256 ∧ b / 256 ^ k % 256 < 256 := by omega
      have hc : 0 ≤ bor a b k ∧ bor a b k ≤ 1 := by unfold bor; split <;> omega
      rw [hb2] at hset
      generalize a / 256 ^ k % 256 = x at *
      generalize b / 256 ^ k % 256 = y at *
      generalize hbc : bor a b k = c at *
      have hw2 : IntKind.i64.wrap x = x := wrap_i64 _ (by omega)
      have hw3 : IntKind.i64.wrap y = y := wrap_i64 _ (by omega)
      have hw4 : IntKind.i64.wrap (x - y) = x - y := wrap_i64 _ (by omega)
      have hw5 : IntKind.i64.wrap (x - y - c) = x - y - c := wrap_i64 _ (by omega)
      have hw6 : IntKind.i64.wrap (x - y - c + 256) = x - y - c + 256 := wrap_i64 _ (by omega)
      have hw7 : IntKind.i64.wrap ((k : Int) + 1) = ((k + 1 : Nat) : Int) := by rw [wrap_i64 _ (by omega)]; rfl
      have hw8 : x - y - c < 0 → IntKind.u8.wrap (x - y - c + 256) = (x - y - c) % 256 := fun h => by rw [wrap_u8 _ (by omega)]; omega
      have hw9 : ¬ x - y - c < 0 → IntKind.u8.wrap (x - y - c) = (x - y - c) % 256 := fun h => by rw [wrap_u8 _ (by omega)]; omega
      simp -dsimp (decide := true) (maxSteps := 1000000) (disch := first | omega | simp (decide := true) only [bdset_a, idc_one, idc_flat, idc_length, cellsI_length, cellsI_flat]) only [brun_a, ↓brun_b, envOf, reduceIte, Nat.reduceEqDiff, Nat.reduceAdd, Nat.reduceSub, Nat.reduceMul, Nat.reduceBEq, Nat.reduceLeDiff, Nat.reduceLT, beq_self_eq_true, cond_true, cond_false, Int.reduceToNat, tab.u3, tab.s3, tab.a3, tab.u5, tab.s5, tab.a5, tab.u23, tab.s23, tab.a23, idc_part, idc_length, allocI, hca, hcb, hG, hw2, hw3, hw4, hw5]
      refine And.intro (by omega) (And.intro (by omega) ?_)
      refine hf _ (Sem.go (k := 1000) ?_)
      simp (decide := true) only [back_mk, backL_in, backL_row, backL_none, backL_nil, Nat.zero_add, Nat.reduceAdd]
      simp -dsimp (decide := true) (maxSteps := 1000000) (disch := first | omega | simp (decide := true) only [bdset_a, idc_one, idc_flat, idc_length, cellsI_length, cellsI_flat]) only [brun_a, ↓brun_b, envOf, reduceIte, Nat.reduceEqDiff, Nat.reduceAdd, Nat.reduceSub, Nat.reduceMul, Nat.reduceBEq, Nat.reduceLeDiff, Nat.reduceLT, beq_self_eq_true, cond_true, cond_false, Int.reduceToNat, tab.u3, tab.s3, tab.a3, tab.u5, tab.s5, tab.a5, tab.u23, tab.s23, tab.a23, idc_part, idc_length, allocI]
      refine SCond.split (fun h1 => ?_) (fun h1 => ?_)
      · simp only [decide_eq_true_eq] at h1
        have hz := hw8 h1
        rw [if_pos h1] at hb1
        simp -dsimp (decide := true) (maxSteps := 1000000) (disch := first | omega | simp (decide := true) only [bdset_a, idc_one, idc_flat, idc_length, cellsI_length, cellsI_flat]) only [brun_a, ↓brun_b, envOf, reduceIte, Nat.reduceEqDiff, Nat.reduceAdd, Nat.reduceSub, Nat.reduceMul, Nat.reduceBEq, Nat.reduceLeDiff, Nat.reduceLT, beq_self_eq_true, cond_true, cond_false, Int.reduceToNat, tab.u3, tab.s3, tab.a3, tab.u5, tab.s5, tab.a5, tab.u23, tab.s23, tab.a23, idc_part, idc_length, allocI, hw6, hw7, hz, hset]
        refine And.intro (by omega) ⟨⟨k + 1, by omega⟩, [0, 1, 2, 3], ?_, by show 16 - (k + 1) < 16 - k; omega⟩
        (refine Wk.ofC ?_; simp -dsimp (decide := true) (maxSteps := 1000000) (disch := first | omega | simp (decide := true) only [bdset_a, idc_one, idc_flat, idc_length, cellsI_length, cellsI_flat]) only [brun_a, ↓brun_b, envOf, reduceIte, Nat.reduceEqDiff, Nat.reduceAdd, Nat.reduceSub, Nat.reduceMul, Nat.reduceBEq, Nat.reduceLeDiff, Nat.reduceLT, beq_self_eq_true, cond_true, cond_false, Int.reduceToNat, tab.u3, tab.s3, tab.a3, tab.u5, tab.s5, tab.a5, tab.u23, tab.s23, tab.a23, idc_part, idc_length, allocI, hb1, bwk_a, frz1, eq_self, implies_true, rho, ↓reduceIte, forall_const])
      · simp only [decide_eq_false_iff_not] at h1
        have hz := hw9 h1
        rw [if_neg h1] at hb1
        simp -dsimp (decide := true) (maxSteps := 1000000) (disch := first | omega | simp (decide := true) only [bdset_a, idc_one, idc_flat, idc_length, cellsI_length, cellsI_flat]) only [brun_a, ↓brun_b, envOf, reduceIte, Nat.reduceEqDiff, Nat.reduceAdd, Nat.reduceSub, Nat.reduceMul, Nat.reduceBEq, Nat.reduceLeDiff, Nat.reduceLT, beq_self_eq_true, cond_true, cond_false, Int.reduceToNat, tab.u3, tab.s3, tab.a3, tab.u5, tab.s5, tab.a5, tab.u23, tab.s23, tab.a23, idc_part, idc_length, allocI, hw6, hw7, hz, hset]
        refine And.intro (by omega) ⟨⟨k + 1, by omega⟩, [0, 1, 2, 3], ?_, by show 16 - (k + 1) < 16 - k; omega⟩
        (refine Wk.ofC ?_; simp -dsimp (decide := true) (maxSteps := 1000000) (disch := first | omega | simp (decide := true) only [bdset_a, idc_one, idc_flat, idc_length, cellsI_length, cellsI_flat]) only [brun_a, ↓brun_b, envOf, reduceIte, Nat.reduceEqDiff, Nat.reduceAdd, Nat.reduceSub, Nat.reduceMul, Nat.reduceBEq, Nat.reduceLeDiff, Nat.reduceLT, beq_self_eq_true, cond_true, cond_false, Int.reduceToNat, tab.u3, tab.s3, tab.a3, tab.u5, tab.s5, tab.a5, tab.u23, tab.s23, tab.a23, idc_part, idc_length, allocI, hb1, bwk_a, frz1, eq_self, implies_true, rho, ↓reduceIte, forall_const])
    · simp only [decide_eq_false_iff_not] at h
      obtain rfl : k = 16 := by omega
      have h0 : 16 - 16 = 0 := rfl
      simp -dsimp (decide := true) (maxSteps := 1000000) (disch := first | omega | simp (decide := true) only [bdset_a, idc_one, idc_flat, idc_length, cellsI_length, cellsI_flat]) only [brun_a, ↓brun_b, envOf, reduceIte, Nat.reduceEqDiff, Nat.reduceAdd, Nat.reduceSub, Nat.reduceMul, Nat.reduceBEq, Nat.reduceLeDiff, Nat.reduceLT, beq_self_eq_true, cond_true, cond_false, Int.reduceToNat, tab.u3, tab.s3, tab.a3, tab.u5, tab.s5, tab.a5, tab.u23, tab.s23, tab.a23, idc_part, idc_length, allocI, dig_nil, List.nil_append, cellsI_idc, splice_idc]
      refine SQ.answer (rs := [.cell 4 23]) rfl rfl ?_
      simp -dsimp (decide := true) (maxSteps := 1000000) (disch := first | omega | simp (decide := true) only [bdset_a, idc_one, idc_flat, idc_length, cellsI_length, cellsI_flat]) only [brun_a, ↓brun_b, envOf, reduceIte, Nat.reduceEqDiff, Nat.reduceAdd, Nat.reduceSub, Nat.reduceMul, Nat.reduceBEq, Nat.reduceLeDiff, Nat.reduceLT, beq_self_eq_true, cond_true, cond_false, Int.reduceToNat, tab.u3, tab.s3, tab.a3, tab.u5, tab.s5, tab.a5, tab.u23, tab.s23, tab.a23, idc_part, idc_length, allocI, bwk_a, frz1, eq_self, implies_true, rho, ↓reduceIte, forall_const]
end Go.Proofs
