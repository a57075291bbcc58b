/- The chapter's examples of numbers: annuletlaw03.fixed answers true. No condition. -/
import Derived.Test.YtheodenjjaoncaaWireB
set_option linter.unusedVariables false
set_option linter.unusedSimpArgs false
namespace Go.Proofs
open Go Go.SL
set_option maxRecDepth 100000
theorem nres.flat (r : Nat × Int × Int) : (nres r).flat = true := Eq.trans rfl rfl
def bcells (l : List UInt8) : List SV := l.map fun c => SV.v (.int .u8 (c.toNat : Int))
theorem bcells_at (l : List UInt8) (i : Nat) (h : i < l.length) : ((bcells l).drop (0 + i)).take 1 = brow l i := by
  have h1 : (l.drop i).take 1 = [l[i]] := by rw [List.drop_eq_getElem_cons h]; rfl
  rw [Nat.zero_add, bcells, ← List.map_drop, ← List.map_take, h1]
  simp [brow, h]
theorem ent_bcells {fz : Nat → Option SB} {ρ : Nat → Nat} {l : List UInt8} {i : Nat} {r : List SV} (h : (brows l)[i]? = some r) : EntL fz ρ r (((bcells l).drop (0 + i)).take 1) := by
  obtain ⟨h1, rfl⟩ := brows_get h
  rw [bcells_at l i h1]
  exact EntL.self rfl
def ucells (l : List Nat) : List SV := l.map fun c : Nat => SV.v (.int .u64 (c : Int))
theorem ent_ucells {fz : Nat → Option SB} {ρ : Nat → Nat} {l : List Nat} {i : Nat} {r : List SV} (h : (urows l)[i]? = some r) : EntL fz ρ r (((ucells l).drop (0 + i)).take 1) := by
  unfold urows at h
  rw [List.getElem?_map] at h
  obtain ⟨x, hx, rfl⟩ := Option.map_eq_some_iff.1 h
  have hi := (List.getElem?_eq_some_iff.1 hx).1
  have e : l[i] = x := (List.getElem?_eq_some_iff.1 hx).2
  have h1 : (l.drop i).take 1 = [l[i]] := by rw [List.drop_eq_getElem_cons hi]; rfl
  rw [Nat.zero_add, ucells, ← List.map_drop, ← List.map_take, h1, e]
  exact EntL.self rfl
theorem bs35_201 (N : Nat) : sBuildSlice Try.prog N 35 3 [(0, .v (.int .u8 2)), (1, .v (.int .u8 0)), (2, .v (.int .u8 1))] = some ⟨.slc N 0 3, ⟨none, some (.row ⟨1, 3, true, 5, fun e => ((bcells [2, 0, 1]).drop (e * 1)).take 1⟩)⟩, True⟩ := by kernel_rfl
theorem bs35_31 (N : Nat) : sBuildSlice Try.prog N 35 2 [(0, .v (.int .u8 3)), (1, .v (.int .u8 1))] = some ⟨.slc N 0 2, ⟨none, some (.row ⟨1, 2, true, 5, fun e => ((bcells [3, 1]).drop (e * 1)).take 1⟩)⟩, True⟩ := by kernel_rfl
theorem bs35_9 (N : Nat) : sBuildSlice Try.prog N 35 1 [(0, .v (.int .u8 9))] = some ⟨.slc N 0 1, ⟨none, some (.row ⟨1, 1, true, 5, fun e => ((bcells [9]).drop (e * 1)).take 1⟩)⟩, True⟩ := by kernel_rfl
theorem bs43_3 (N : Nat) : sBuildSlice Try.prog N 43 3 [(0, .v (.int .u64 0)), (1, .v (.int .u64 1)), (2, .v (.int .u64 256))] = some ⟨.slc N 0 3, ⟨none, some (.row ⟨1, 3, true, 36, fun e => ((ucells [0, 1, 256]).drop (e * 1)).take 1⟩)⟩, True⟩ := by kernel_rfl
theorem bs43_1 (N : Nat) (a : Nat) : sBuildSlice Try.prog N 43 1 [(0, .v (.int .u64 (a : Int)))] = some ⟨.slc N 0 1, ⟨none, some (.row ⟨1, 1, true, 36, fun e => ((ucells [a]).drop (e * 1)).take 1⟩)⟩, True⟩ := by kernel_rfl
theorem getNum_a : getNum [2, 0, 1] 0 = (0, 0, 2) := by decide
theorem getNum_b : getNum [3, 1] 0 = (0, 0, 3) := by decide
theorem getNum_c : getNum [9] 0 = (0, 0, 2) := by decide
theorem forms_a : ([0, 1, 256].flatMap form) = [0, 1, 1, 2, 1, 0] := by decide
theorem fixed3_calls : Pure Try.prog 43 [] (.v (.bool true)) := by
  refine SCall.mk (fn := Try.f43) (by kernel_rfl) rfl (Nat.le_of_ble_eq_true (by kernel_rfl)) ?_
  refine Sem.go (k := 1000) ?_
  simp -dsimp (decide := true) (maxSteps := 1000000) (disch := first | omega | simp (decide := true) only [bdset_a, nres.flat, urows.flat, urows_length, brow_len, urow_len, brow_flat]) only [brun_a, ↓brun_b, envOf, reduceIte, Nat.reduceEqDiff, Nat.reduceAdd, Nat.reduceSub, Nat.reduceMul, Nat.reduceBEq, Nat.reduceLeDiff, Nat.reduceLT, beq_self_eq_true, cond_true, cond_false, Int.reduceToNat, tab.u3, tab.s3, tab.a3, tab.u5, tab.s5, tab.a5, tab.u9, tab.s9, tab.a9, tab.u35, tab.s35, tab.a35, tab.u36, tab.s36, tab.a36, tab.u37, tab.s37, tab.a37, tab.u43, tab.s43, tab.a43, brow_len, brow_cell, brows_at, urows_length, urows_at, urow_cell, urow_len, bs35_201]
  refine SemOps.frz (d := 11) (brows [2, 0, 1]) rfl rfl rfl (by omega) (fun i r h => ent_bcells h) ?_
  refine SemOps.callq (k := 1000) cal.f42 (getNum_calls [2, 0, 1] 0 (by decide) (by decide)) rfl rfl rfl rfl (by simp only [bflat_a, nres.flat, urows.flat, brow_flat]) (by simp only [bflat_a, nres.flat, urows.flat, brow_flat]) (by simp -dsimp (decide := true) (maxSteps := 1000000) (disch := first | omega | simp (decide := true) only [bdset_a, nres.flat, urows.flat, urows_length, brow_len, urow_len, brow_flat]) only [brun_a, ↓brun_b, envOf, reduceIte, Nat.reduceEqDiff, Nat.reduceAdd, Nat.reduceSub, Nat.reduceMul, Nat.reduceBEq, Nat.reduceLeDiff, Nat.reduceLT, beq_self_eq_true, cond_true, cond_false, Int.reduceToNat, tab.u3, tab.s3, tab.a3, tab.u5, tab.s5, tab.a5, tab.u9, tab.s9, tab.a9, tab.u35, tab.s35, tab.a35, tab.u36, tab.s36, tab.a36, tab.u37, tab.s37, tab.a37, tab.u43, tab.s43, tab.a43]) ?_
  simp -dsimp (decide := true) (maxSteps := 1000000) (disch := first | omega | simp (decide := true) only [bdset_a, nres.flat, urows.flat, urows_length, brow_len, urow_len, brow_flat]) only [brun_a, ↓brun_b, envOf, reduceIte, Nat.reduceEqDiff, Nat.reduceAdd, Nat.reduceSub, Nat.reduceMul, Nat.reduceBEq, Nat.reduceLeDiff, Nat.reduceLT, beq_self_eq_true, cond_true, cond_false, Int.reduceToNat, tab.u3, tab.s3, tab.a3, tab.u5, tab.s5, tab.a5, tab.u9, tab.s9, tab.a9, tab.u35, tab.s35, tab.a35, tab.u36, tab.s36, tab.a36, tab.u37, tab.s37, tab.a37, tab.u43, tab.s43, tab.a43, brow_len, brow_cell, brows_at, urows_length, urows_at, urow_cell, urow_len, getNum_a, nres, bs35_31]
  refine SemOps.frz (d := 17) (brows [3, 1]) rfl rfl rfl (by omega) (fun i r h => ent_bcells h) ?_
  refine SemOps.callq (k := 1000) cal.f42 (getNum_calls [3, 1] 0 (by decide) (by decide)) rfl rfl rfl rfl (by simp only [bflat_a, nres.flat, urows.flat, brow_flat]) (by simp only [bflat_a, nres.flat, urows.flat, brow_flat]) (by simp -dsimp (decide := true) (maxSteps := 1000000) (disch := first | omega | simp (decide := true) only [bdset_a, nres.flat, urows.flat, urows_length, brow_len, urow_len, brow_flat]) only [brun_a, ↓brun_b, envOf, reduceIte, Nat.reduceEqDiff, Nat.reduceAdd, Nat.reduceSub, Nat.reduceMul, Nat.reduceBEq, Nat.reduceLeDiff, Nat.reduceLT, beq_self_eq_true, cond_true, cond_false, Int.reduceToNat, tab.u3, tab.s3, tab.a3, tab.u5, tab.s5, tab.a5, tab.u9, tab.s9, tab.a9, tab.u35, tab.s35, tab.a35, tab.u36, tab.s36, tab.a36, tab.u37, tab.s37, tab.a37, tab.u43, tab.s43, tab.a43]) ?_
  simp -dsimp (decide := true) (maxSteps := 1000000) (disch := first | omega | simp (decide := true) only [bdset_a, nres.flat, urows.flat, urows_length, brow_len, urow_len, brow_flat]) only [brun_a, ↓brun_b, envOf, reduceIte, Nat.reduceEqDiff, Nat.reduceAdd, Nat.reduceSub, Nat.reduceMul, Nat.reduceBEq, Nat.reduceLeDiff, Nat.reduceLT, beq_self_eq_true, cond_true, cond_false, Int.reduceToNat, tab.u3, tab.s3, tab.a3, tab.u5, tab.s5, tab.a5, tab.u9, tab.s9, tab.a9, tab.u35, tab.s35, tab.a35, tab.u36, tab.s36, tab.a36, tab.u37, tab.s37, tab.a37, tab.u43, tab.s43, tab.a43, brow_len, brow_cell, brows_at, urows_length, urows_at, urow_cell, urow_len, getNum_b, nres, bs35_9]
  refine SemOps.frz (d := 23) (brows [9]) rfl rfl rfl (by omega) (fun i r h => ent_bcells h) ?_
  refine SemOps.callq (k := 1000) cal.f42 (getNum_calls [9] 0 (by decide) (by decide)) rfl rfl rfl rfl (by simp only [bflat_a, nres.flat, urows.flat, brow_flat]) (by simp only [bflat_a, nres.flat, urows.flat, brow_flat]) (by simp -dsimp (decide := true) (maxSteps := 1000000) (disch := first | omega | simp (decide := true) only [bdset_a, nres.flat, urows.flat, urows_length, brow_len, urow_len, brow_flat]) only [brun_a, ↓brun_b, envOf, reduceIte, Nat.reduceEqDiff, Nat.reduceAdd, Nat.reduceSub, Nat.reduceMul, Nat.reduceBEq, Nat.reduceLeDiff, Nat.reduceLT, beq_self_eq_true, cond_true, cond_false, Int.reduceToNat, tab.u3, tab.s3, tab.a3, tab.u5, tab.s5, tab.a5, tab.u9, tab.s9, tab.a9, tab.u35, tab.s35, tab.a35, tab.u36, tab.s36, tab.a36, tab.u37, tab.s37, tab.a37, tab.u43, tab.s43, tab.a43]) ?_
  simp -dsimp (decide := true) (maxSteps := 1000000) (disch := first | omega | simp (decide := true) only [bdset_a, nres.flat, urows.flat, urows_length, brow_len, urow_len, brow_flat]) only [brun_a, ↓brun_b, envOf, reduceIte, Nat.reduceEqDiff, Nat.reduceAdd, Nat.reduceSub, Nat.reduceMul, Nat.reduceBEq, Nat.reduceLeDiff, Nat.reduceLT, beq_self_eq_true, cond_true, cond_false, Int.reduceToNat, tab.u3, tab.s3, tab.a3, tab.u5, tab.s5, tab.a5, tab.u9, tab.s9, tab.a9, tab.u35, tab.s35, tab.a35, tab.u36, tab.s36, tab.a36, tab.u37, tab.s37, tab.a37, tab.u43, tab.s43, tab.a43, brow_len, brow_cell, brows_at, urows_length, urows_at, urow_cell, urow_len, getNum_c, nres, bs43_3]
  refine SemOps.frz (d := 28) (urows [0, 1, 256]) rfl rfl rfl (by omega) (fun i r h => ent_ucells h) ?_
  refine SemOps.callq (k := 1000) cal.f44 (putNum_calls [0, 1, 256] (by decide) (by decide)) rfl rfl rfl rfl (by simp only [bflat_a, nres.flat, urows.flat, brow_flat]) (by simp only [bflat_a, nres.flat, urows.flat, brow_flat]) (by simp -dsimp (decide := true) (maxSteps := 1000000) (disch := first | omega | simp (decide := true) only [bdset_a, nres.flat, urows.flat, urows_length, brow_len, urow_len, brow_flat]) only [brun_a, ↓brun_b, envOf, reduceIte, Nat.reduceEqDiff, Nat.reduceAdd, Nat.reduceSub, Nat.reduceMul, Nat.reduceBEq, Nat.reduceLeDiff, Nat.reduceLT, beq_self_eq_true, cond_true, cond_false, Int.reduceToNat, tab.u3, tab.s3, tab.a3, tab.u5, tab.s5, tab.a5, tab.u9, tab.s9, tab.a9, tab.u35, tab.s35, tab.a35, tab.u36, tab.s36, tab.a36, tab.u37, tab.s37, tab.a37, tab.u43, tab.s43, tab.a43]) ?_
  simp -dsimp (decide := true) (maxSteps := 1000000) (disch := first | omega | simp (decide := true) only [bdset_a, nres.flat, urows.flat, urows_length, brow_len, urow_len, brow_flat]) only [brun_a, ↓brun_b, envOf, reduceIte, Nat.reduceEqDiff, Nat.reduceAdd, Nat.reduceSub, Nat.reduceMul, Nat.reduceBEq, Nat.reduceLeDiff, Nat.reduceLT, beq_self_eq_true, cond_true, cond_false, Int.reduceToNat, tab.u3, tab.s3, tab.a3, tab.u5, tab.s5, tab.a5, tab.u9, tab.s9, tab.a9, tab.u35, tab.s35, tab.a35, tab.u36, tab.s36, tab.a36, tab.u37, tab.s37, tab.a37, tab.u43, tab.s43, tab.a43, brow_len, brow_cell, brows_at, urows_length, urows_at, urow_cell, urow_len, forms_a, nres]
  refine SQ.answer (rs := [.tmp 0]) rfl rfl ?_
  simp -dsimp (decide := true) (maxSteps := 1000000) (disch := first | omega | simp (decide := true) only [bdset_a, nres.flat, urows.flat, urows_length, brow_len, urow_len, brow_flat]) only [brun_a, ↓brun_b, envOf, reduceIte, Nat.reduceEqDiff, Nat.reduceAdd, Nat.reduceSub, Nat.reduceMul, Nat.reduceBEq, Nat.reduceLeDiff, Nat.reduceLT, beq_self_eq_true, cond_true, cond_false, Int.reduceToNat, tab.u3, tab.s3, tab.a3, tab.u5, tab.s5, tab.a5, tab.u9, tab.s9, tab.a9, tab.u35, tab.s35, tab.a35, tab.u36, tab.s36, tab.a36, tab.u37, tab.s37, tab.a37, tab.u43, tab.s43, tab.a43, bwk_a, frz1, eq_self, implies_true, rho, ↓reduceIte, forall_const]
end Go.Proofs
