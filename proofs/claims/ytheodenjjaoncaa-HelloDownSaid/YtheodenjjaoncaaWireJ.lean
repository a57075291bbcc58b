/- Texts put: wire.PutText, which answers a slice of its own. -/
import Derived.Test.YtheodenjjaoncaaWireI
import Derived.Test.YtheodenjjaoncaaSlT
set_option linter.unusedVariables false
set_option linter.unusedSimpArgs false
namespace Go.SL
open Go
def trows (ts : List (List UInt8)) : List (List SV) := ts.map fun t => [bsl t]
theorem trows_length (ts : List (List UInt8)) : (trows ts).length = ts.length := by simp [trows]
theorem trows_flat (ts : List (List UInt8)) : SV.flatR (trows ts) = true := flatR_map _ _ fun t => by simp only [flatL_cons, flatL_nil, flat_rsl, flatR_brows, Bool.and_self]
def trow (ts : List (List UInt8)) (k : Nat) : List SV := [bsl (ts.getD k [])]
theorem trows_at (ts : List (List UInt8)) (k : Nat) (h : k < ts.length) : (trows ts).getD k [] = trow ts k := by
  simp [trows, trow, List.getD_eq_getElem?_getD, h]
theorem trow_len (ts : List (List UInt8)) (k : Nat) : (trow ts k).length = 1 := Eq.trans rfl rfl
theorem trow_cell (ts : List (List UInt8)) (k : Nat) : cellAt (trow ts k) 0 = bsl (ts.getD k []) := Eq.trans rfl rfl
/-- Texts, one behind the other, each behind its length. -/
def ptexts (ts : List (List UInt8)) : List UInt8 := ts.flatMap fun t => form t.length ++ t
theorem ptexts_nil : ptexts [] = [] := Eq.trans rfl rfl
theorem ptexts_take (ts : List (List UInt8)) (k : Nat) (h : k < ts.length) : ptexts (ts.take (k + 1)) = ptexts (ts.take k) ++ form (ts.getD k []).length ++ ts.getD k [] := by
  rw [List.take_add_one, List.getElem?_eq_getElem h, Option.toList_some, List.getD_eq_getElem?_getD, List.getElem?_eq_getElem h, ptexts, List.flatMap_append, List.flatMap_singleton, List.append_assoc]
  rfl
theorem ptexts_le (ts : List (List UInt8)) (k : Nat) : (ptexts (ts.take k)).length ≤ (ptexts ts).length := by
  conv => rhs; rw [← List.take_append_drop k ts]
  simp only [ptexts, List.flatMap_append, List.length_append]
  omega
theorem brow_app3 (a f t : List UInt8) (i : Nat) (hi : i < a.length + f.length + t.length) : (if i < a.length + f.length then if i < a.length then brow a i else brow f (i - a.length) else (brows t).getD (i - (a.length + f.length)) []) = brow (a ++ f ++ t) i := by
  by_cases h1 : i < a.length + f.length
  · rw [if_pos h1]
    by_cases h2 : i < a.length
    · rw [if_pos h2]
      simp only [brow, List.getD_eq_getElem?_getD]
      rw [List.append_assoc, List.getElem?_append_left h2]
    · rw [if_neg h2]
      simp only [brow, List.getD_eq_getElem?_getD]
      rw [List.append_assoc, List.getElem?_append_right (by omega), List.getElem?_append_left (by omega)]
  · rw [if_neg h1, brows_at _ _ (by omega)]
    simp only [brow, List.getD_eq_getElem?_getD]
    rw [List.getElem?_append_right (by rw [List.length_append]; omega), List.length_append]
end Go.SL
namespace Go.Proofs
open Go Go.SL
set_option maxRecDepth 100000
theorem putText_owns (ts : List (List UInt8)) (hb : (ptexts ts).length ≤ 140737488355328) (hts : ts.length < 4611686018427387904) : Owns Try.prog 47 [.rsl 1 (trows ts)] 1 (ptexts ts).length 5 (brow (ptexts ts)) := by
  refine SCall.mk (fn := Try.f47) (by kernel_rfl) rfl (Nat.le_of_ble_eq_true (by kernel_rfl)) ?_
  refine Sem.go (k := 1000) ?_
  simp -dsimp (decide := true) (maxSteps := 1000000) (disch := first | omega | simp (decide := true) only [bdset_a, nres.flat, tres.flat, ires.flat, urows.flat, urows_length, brow_len, urow_len, brow_flat, trows_flat, trows_length, trow_len]) only [brun_a, ↓brun_b, envOf, reduceIte, Nat.reduceEqDiff, Nat.reduceAdd, Nat.reduceSub, Nat.reduceMul, Nat.reduceBEq, Nat.reduceLeDiff, Nat.reduceLT, beq_self_eq_true, cond_true, cond_false, Int.reduceToNat, tab.u3, tab.s3, tab.a3, tab.u5, tab.s5, tab.a5, tab.u35, tab.s35, tab.a35, tab.u36, tab.s36, tab.a36, tab.u43, tab.s43, tab.a43, tab.u44, tab.s44, tab.a44, brow_len, brow_cell, brows_at, urows_length, urows_at, urow_cell, urow_len, trows_length, trows_at, trow_cell, trow_len]
  refine Sem.ghost 3 1 5 rfl ?_
  refine Sem.loop (ι := {k : Nat // k ≤ ts.length}) (fun k => ⟨23, 0, [(6, .rsl 1 (trows ts)), (7, .v (.int .i64 (ts.length : Int))), (8, .v (.int .i64 (k.1 : Int))), (3, .slc 0 0 (ptexts (ts.take k.1)).length)], [some (.row ⟨1, (ptexts (ts.take k.1)).length, true, 5, brow (ptexts (ts.take k.1))⟩)]⟩) (fun k => ts.length - k.1) ⟨0, by omega⟩ [0] ?_ ?_
  · (refine Wk.ofC ?_; simp -dsimp (decide := true) (maxSteps := 1000000) (disch := first | omega | simp (decide := true) only [bdset_a, nres.flat, tres.flat, ires.flat, urows.flat, urows_length, brow_len, urow_len, brow_flat, trows_flat, trows_length, trow_len]) only [brun_a, ↓brun_b, envOf, reduceIte, Nat.reduceEqDiff, Nat.reduceAdd, Nat.reduceSub, Nat.reduceMul, Nat.reduceBEq, Nat.reduceLeDiff, Nat.reduceLT, beq_self_eq_true, cond_true, cond_false, Int.reduceToNat, tab.u3, tab.s3, tab.a3, tab.u5, tab.s5, tab.a5, tab.u35, tab.s35, tab.a35, tab.u36, tab.s36, tab.a36, tab.u43, tab.s43, tab.a43, tab.u44, tab.s44, tab.a44, brow_len, brow_cell, brows_at, urows_length, urows_at, urow_cell, urow_len, trows_length, trows_at, trow_cell, trow_len, List.take_zero, ptexts_nil, bwk_a, frz1, eq_self, implies_true, rho, ↓reduceIte, forall_const])
  · rintro ⟨k, hk⟩
    refine Sem.go (k := 1000) ?_
    simp -dsimp (decide := true) (maxSteps := 1000000) (disch := first | omega | simp (decide := true) only [bdset_a, nres.flat, tres.flat, ires.flat, urows.flat, urows_length, brow_len, urow_len, brow_flat, trows_flat, trows_length, trow_len]) only [brun_a, ↓brun_b, envOf, reduceIte, Nat.reduceEqDiff, Nat.reduceAdd, Nat.reduceSub, Nat.reduceMul, Nat.reduceBEq, Nat.reduceLeDiff, Nat.reduceLT, beq_self_eq_true, cond_true, cond_false, Int.reduceToNat, tab.u3, tab.s3, tab.a3, tab.u5, tab.s5, tab.a5, tab.u35, tab.s35, tab.a35, tab.u36, tab.s36, tab.a36, tab.u43, tab.s43, tab.a43, tab.u44, tab.s44, tab.a44, brow_len, brow_cell, brows_at, urows_length, urows_at, urow_cell, urow_len, trows_length, trows_at, trow_cell, trow_len]
    refine SCond.split (fun h => ?_) (fun h => ?_)
    · simp only [decide_eq_true_eq] at h
      have hk' : k < ts.length := by omega
      have hw : IntKind.i64.wrap ((k : Int) + 1) = ((k + 1 : Nat) : Int) := by rw [wrap_i64 _ (by omega)]; rfl
      have hpt := ptexts_take ts k hk'
      have hle := ptexts_le ts (k + 1)
      rw [hpt, List.length_append, List.length_append] at hle
      simp -dsimp (decide := true) (maxSteps := 1000000) (disch := first | omega | simp (decide := true) only [bdset_a, nres.flat, tres.flat, ires.flat, urows.flat, urows_length, brow_len, urow_len, brow_flat, trows_flat, trows_length, trow_len]) only [brun_a, ↓brun_b, envOf, reduceIte, Nat.reduceEqDiff, Nat.reduceAdd, Nat.reduceSub, Nat.reduceMul, Nat.reduceBEq, Nat.reduceLeDiff, Nat.reduceLT, beq_self_eq_true, cond_true, cond_false, Int.reduceToNat, tab.u3, tab.s3, tab.a3, tab.u5, tab.s5, tab.a5, tab.u35, tab.s35, tab.a35, tab.u36, tab.s36, tab.a36, tab.u43, tab.s43, tab.a43, tab.u44, tab.s44, tab.a44, brow_len, brow_cell, brows_at, urows_length, urows_at, urow_cell, urow_len, trows_length, trows_at, trow_cell, trow_len]
      generalize ts.getD k [] = t at *
      generalize ptexts (ts.take k) = acc at *
      have hwu : IntKind.u64.wrap ((t.length : Nat) : Int) = (t.length : Int) := wrap_u64 _ (by omega)
      simp -dsimp (decide := true) (maxSteps := 1000000) (disch := first | omega | simp (decide := true) only [bdset_a, nres.flat, tres.flat, ires.flat, urows.flat, urows_length, brow_len, urow_len, brow_flat, trows_flat, trows_length, trow_len]) only [brun_a, ↓brun_b, envOf, reduceIte, Nat.reduceEqDiff, Nat.reduceAdd, Nat.reduceSub, Nat.reduceMul, Nat.reduceBEq, Nat.reduceLeDiff, Nat.reduceLT, beq_self_eq_true, cond_true, cond_false, Int.reduceToNat, tab.u3, tab.s3, tab.a3, tab.u5, tab.s5, tab.a5, tab.u35, tab.s35, tab.a35, tab.u36, tab.s36, tab.a36, tab.u43, tab.s43, tab.a43, tab.u44, tab.s44, tab.a44, brow_len, brow_cell, brows_at, urows_length, urows_at, urow_cell, urow_len, trows_length, trows_at, trow_cell, trow_len, hwu, bs43_1]
      refine And.intro (by omega) ?_
      have hln : ∀ n ∈ [t.length], n < 18446744073709551616 := fun n hn => by
        rw [List.mem_singleton.1 hn]
        omega
      have hl9 : [t.length].length * 9 ≤ 140737488355328 := by
        rw [List.length_singleton]
        omega
      refine SemOps.frz (d := 16) (urows [t.length]) rfl rfl rfl (by omega) (fun i r h => ent_ucells h) ?_
      refine SemOps.callq (k := 1000) cal.f44 (putNum_calls [t.length] hln hl9) rfl rfl rfl rfl (by simp only [bflat_a, nres.flat, tres.flat, ires.flat, urows.flat, brow_flat, trows_flat]) (by simp only [bflat_a, nres.flat, tres.flat, ires.flat, urows.flat, brow_flat, trows_flat]) (by simp -dsimp (decide := true) (maxSteps := 1000000) (disch := first | omega | simp (decide := true) only [bdset_a, nres.flat, tres.flat, ires.flat, urows.flat, urows_length, brow_len, urow_len, brow_flat, trows_flat, trows_length, trow_len]) only [brun_a, ↓brun_b, envOf, reduceIte, Nat.reduceEqDiff, Nat.reduceAdd, Nat.reduceSub, Nat.reduceMul, Nat.reduceBEq, Nat.reduceLeDiff, Nat.reduceLT, beq_self_eq_true, cond_true, cond_false, Int.reduceToNat, tab.u3, tab.s3, tab.a3, tab.u5, tab.s5, tab.a5, tab.u35, tab.s35, tab.a35, tab.u36, tab.s36, tab.a36, tab.u43, tab.s43, tab.a43, tab.u44, tab.s44, tab.a44]) ?_
      simp -dsimp (decide := true) (maxSteps := 1000000) (disch := first | omega | simp (decide := true) only [bdset_a, nres.flat, tres.flat, ires.flat, urows.flat, urows_length, brow_len, urow_len, brow_flat, trows_flat, trows_length, trow_len]) only [brun_a, ↓brun_b, envOf, reduceIte, Nat.reduceEqDiff, Nat.reduceAdd, Nat.reduceSub, Nat.reduceMul, Nat.reduceBEq, Nat.reduceLeDiff, Nat.reduceLT, beq_self_eq_true, cond_true, cond_false, Int.reduceToNat, tab.u3, tab.s3, tab.a3, tab.u5, tab.s5, tab.a5, tab.u35, tab.s35, tab.a35, tab.u36, tab.s36, tab.a36, tab.u43, tab.s43, tab.a43, tab.u44, tab.s44, tab.a44, brow_len, brow_cell, brows_at, urows_length, urows_at, urow_cell, urow_len, trows_length, trows_at, trow_cell, trow_len, hw, List.flatMap_cons, List.flatMap_nil, List.append_nil, sapp1_sl el5]
      refine And.intro (by omega) (And.intro (by omega) ⟨⟨k + 1, by omega⟩, [3], ?_, by show ts.length - (k + 1) < ts.length - k; omega⟩)
      have hl3 : (acc ++ form t.length ++ t).length = acc.length + (form t.length).length + t.length := by rw [List.length_append, List.length_append]
      (refine Wk.ofC ?_; simp -dsimp (decide := true) (maxSteps := 1000000) (disch := first | omega | simp (decide := true) only [bdset_a, nres.flat, tres.flat, ires.flat, urows.flat, urows_length, brow_len, urow_len, brow_flat, trows_flat, trows_length, trow_len]) only [brun_a, ↓brun_b, envOf, reduceIte, Nat.reduceEqDiff, Nat.reduceAdd, Nat.reduceSub, Nat.reduceMul, Nat.reduceBEq, Nat.reduceLeDiff, Nat.reduceLT, beq_self_eq_true, cond_true, cond_false, Int.reduceToNat, tab.u3, tab.s3, tab.a3, tab.u5, tab.s5, tab.a5, tab.u35, tab.s35, tab.a35, tab.u36, tab.s36, tab.a36, tab.u43, tab.s43, tab.a43, tab.u44, tab.s44, tab.a44, brow_len, brow_cell, brows_at, urows_length, urows_at, urow_cell, urow_len, trows_length, trows_at, trow_cell, trow_len, hpt, hl3, bwk_a, frz1, eq_self, implies_true, rho, ↓reduceIte, forall_const])
      intro e he
      rw [brow_app3 _ _ _ _ he]
      exact EntL.self rfl
    · simp only [decide_eq_false_iff_not] at h
      obtain rfl : k = ts.length := by omega
      have hft : ts.take ts.length = ts := List.take_length
      simp -dsimp (decide := true) (maxSteps := 1000000) (disch := first | omega | simp (decide := true) only [bdset_a, nres.flat, tres.flat, ires.flat, urows.flat, urows_length, brow_len, urow_len, brow_flat, trows_flat, trows_length, trow_len]) only [brun_a, ↓brun_b, envOf, reduceIte, Nat.reduceEqDiff, Nat.reduceAdd, Nat.reduceSub, Nat.reduceMul, Nat.reduceBEq, Nat.reduceLeDiff, Nat.reduceLT, beq_self_eq_true, cond_true, cond_false, Int.reduceToNat, tab.u3, tab.s3, tab.a3, tab.u5, tab.s5, tab.a5, tab.u35, tab.s35, tab.a35, tab.u36, tab.s36, tab.a36, tab.u43, tab.s43, tab.a43, tab.u44, tab.s44, tab.a44, brow_len, brow_cell, brows_at, urows_length, urows_at, urow_cell, urow_len, trows_length, trows_at, trow_cell, trow_len, hft]
      refine SQ.runL (rs := [.tmp 2]) [0] _ _ rfl (And.intro rfl rfl) (by decide) rfl rfl ?_ ?_
      · simp -dsimp (decide := true) (maxSteps := 1000000) (disch := first | omega | simp (decide := true) only [bdset_a, nres.flat, tres.flat, ires.flat, urows.flat, urows_length, brow_len, urow_len, brow_flat, trows_flat, trows_length, trow_len]) only [brun_a, ↓brun_b, envOf, reduceIte, Nat.reduceEqDiff, Nat.reduceAdd, Nat.reduceSub, Nat.reduceMul, Nat.reduceBEq, Nat.reduceLeDiff, Nat.reduceLT, beq_self_eq_true, cond_true, cond_false, Int.reduceToNat, tab.u3, tab.s3, tab.a3, tab.u5, tab.s5, tab.a5, tab.u35, tab.s35, tab.a35, tab.u36, tab.s36, tab.a36, tab.u43, tab.s43, tab.a43, tab.u44, tab.s44, tab.a44, brow_len, brow_cell, brows_at, urows_length, urows_at, urow_cell, urow_len, trows_length, trows_at, trow_cell, trow_len, bwk_a, frz1, eq_self, implies_true, rho, ↓reduceIte, forall_const]
      · simp -dsimp (decide := true) (maxSteps := 1000000) (disch := first | omega | simp (decide := true) only [bdset_a, nres.flat, tres.flat, ires.flat, urows.flat, urows_length, brow_len, urow_len, brow_flat, trows_flat, trows_length, trow_len]) only [brun_a, ↓brun_b, envOf, reduceIte, Nat.reduceEqDiff, Nat.reduceAdd, Nat.reduceSub, Nat.reduceMul, Nat.reduceBEq, Nat.reduceLeDiff, Nat.reduceLT, beq_self_eq_true, cond_true, cond_false, Int.reduceToNat, tab.u3, tab.s3, tab.a3, tab.u5, tab.s5, tab.a5, tab.u35, tab.s35, tab.a35, tab.u36, tab.s36, tab.a36, tab.u43, tab.s43, tab.a43, tab.u44, tab.s44, tab.a44, brow_len, brow_cell, brows_at, urows_length, urows_at, urow_cell, urow_len, trows_length, trows_at, trow_cell, trow_len, bwk_a, frz1, eq_self, implies_true, rho, ↓reduceIte, forall_const]
end Go.Proofs
