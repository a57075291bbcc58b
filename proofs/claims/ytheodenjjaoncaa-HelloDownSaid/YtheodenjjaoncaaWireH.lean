/- Identities read out of bytes: wire.GetID and the document's. -/
import Derived.Test.YtheodenjjaoncaaWireG
set_option linter.unusedVariables false
set_option linter.unusedSimpArgs false
namespace Go.Proofs
open Go Go.SL
set_option maxRecDepth 100000
theorem bcells_length (l : List UInt8) : (bcells l).length = l.length := List.length_map _
theorem bcells_one (l : List UInt8) : (bcells l).all SV.one = true := by simp [bcells, SV.one, Value.oneCell']
theorem bcells_part (l : List UInt8) (h : l.length = 16) : spart true (bcells l) 0 16 = .agg (bcells l) := by simp [spart, List.take_of_length_le, bcells_length, h]
theorem bcells_cell (l : List UInt8) (i : Nat) (h : i < l.length) : cellAt (bcells l) i = .v (.int .u8 ((l.getD i 0).toNat : Int)) := by
  have := cellAt_map (l.map fun c => (c.toNat : Int)) i (by rw [List.length_map]; exact h)
  rw [List.map_map] at this
  rw [bcells]
  refine (show _ = _ from this).trans ?_
  rw [List.getD_eq_getElem?_getD, List.getElem?_map, List.getD_eq_getElem?_getD, List.getElem?_eq_getElem h]
  rfl
theorem bcells_splice (a b : List UInt8) (ha : a.length = 16) (hb : b.length = 16) : splice (bcells a) 0 (bcells b) = bcells b := by
  simp [splice, bcells_length, hb, List.drop_of_length_le, ha]
theorem bcells_flat (l : List UInt8) : SV.flatL (bcells l) = true := by
  induction l with
  | nil => rfl
  | cons x l ih => exact ih
theorem brows_cells (l : List UInt8) : (brows l).map (fun r => cellAt r 0) = bcells l := by
  simp [brows, bcells, cellAt]
def z16 : List UInt8 := List.replicate 16 0
theorem z16_length : z16.length = 16 := Eq.trans rfl rfl
theorem alloc23 (N : Nat) : sAlloc Try.prog N 23 = some ⟨.ptr N 0 0, ⟨none, some (.row ⟨16, 1, true, 23, fun _ => bcells z16⟩)⟩, True⟩ := sAlloc_eq N 23 _ tab.z23 rfl
theorem bcells_set (l : List UInt8) (k : Nat) (x : UInt8) : splice (bcells l) k [.v (.int .u8 (x.toNat : Int))] = bcells (l.take k ++ x :: l.drop (k + 1)) := by
  simp [splice, bcells]
theorem z16_splice (m : List UInt8) (hm : m.length = 16) (k : Nat) (hk : k < 16) : splice (bcells (m.take k ++ z16.drop k)) k [.v (.int .u8 ((m.getD k 0).toNat : Int))] = bcells (m.take (k + 1) ++ z16.drop (k + 1)) := by
  have h1 : (m.take k).length = k := by rw [List.length_take]; omega
  rw [bcells_set, List.take_append_of_le_length (by omega), List.take_of_length_le (by omega), List.drop_append, h1, List.drop_of_length_le (by omega), List.nil_append, List.drop_drop, List.take_add_one, List.append_assoc]
  rw [List.getD_eq_getElem?_getD, List.getElem?_eq_getElem (by omega)]
  simp
/-- What is read as an identity at a place. -/
def getID (l : List UInt8) (p : Int) : List UInt8 × Int × Int :=
  if p < 0 ∨ (l.length : Int) < p then (z16, 0, 1) else if (l.length : Int) - p < 16 then (z16, 0, 3)
  else ((l.drop p.toNat).take 16, p + 16, 0)
def ires (r : List UInt8 × Int × Int) : SV := .tup [.agg (bcells r.1), .v (.int .i64 r.2.1), .v (.int .i64 r.2.2)]
theorem getID_calls (l : List UInt8) (p : Int) (hl : l.length < 4611686018427387904) (hp : -9223372036854775808 ≤ p ∧ p < 9223372036854775808) : Pure Try.prog 69 [bsl l, .v (.int .i64 p)] (ires (getID l p)) := by
  have hg : getID l p = getID l p := rfl
  conv at hg => rhs; unfold getID
  refine SCall.mk (fn := Try.f69) (by kernel_rfl) rfl (Nat.le_of_ble_eq_true (by kernel_rfl)) ?_
  refine Sem.go (k := 1000) ?_
  simp -dsimp (decide := true) (maxSteps := 1000000) (disch := first | omega | simp (decide := true) only [bdset_a, nres.flat, tres.flat, urows.flat, urows_length, brow_len, urow_len, brow_flat, z16_length, bcells_one, bcells_length, bcells_flat]) only [brun_a, ↓brun_b, envOf, reduceIte, Nat.reduceEqDiff, Nat.reduceAdd, Nat.reduceSub, Nat.reduceMul, Nat.reduceBEq, Nat.reduceLeDiff, Nat.reduceLT, beq_self_eq_true, cond_true, cond_false, Int.reduceToNat, tab.u3, tab.s3, tab.a3, tab.u5, tab.s5, tab.a5, tab.u23, tab.s23, tab.a23, tab.u35, tab.s35, tab.a35, brow_len, brow_cell, brows_at, urows_length, urows_at, urow_cell, urow_len, bcells_part, z16_length, bcells_length, alloc23, bcells_splice]
  refine SIf.split (fun h1 => ?_) (fun h1 => ?_)
  · simp -dsimp (decide := true) (maxSteps := 1000000) (disch := first | omega | simp (decide := true) only [bdset_a, nres.flat, tres.flat, urows.flat, urows_length, brow_len, urow_len, brow_flat, z16_length, bcells_one, bcells_length, bcells_flat]) only [brun_a, ↓brun_b, envOf, reduceIte, Nat.reduceEqDiff, Nat.reduceAdd, Nat.reduceSub, Nat.reduceMul, Nat.reduceBEq, Nat.reduceLeDiff, Nat.reduceLT, beq_self_eq_true, cond_true, cond_false, Int.reduceToNat, tab.u3, tab.s3, tab.a3, tab.u5, tab.s5, tab.a5, tab.u23, tab.s23, tab.a23, tab.u35, tab.s35, tab.a35, brow_len, brow_cell, brows_at, urows_length, urows_at, urow_cell, urow_len, bcells_part, z16_length, bcells_length, alloc23, bcells_splice, h1]
    simp only [decide_eq_true_eq] at h1
    rw [if_pos (.inl h1)] at hg
    rw [hg]
    refine SQ.answer (rs := [.cell 4 23, .tmp 5, .tmp 6]) rfl rfl ?_
    simp -dsimp (decide := true) (maxSteps := 1000000) (disch := first | omega | simp (decide := true) only [bdset_a, nres.flat, tres.flat, urows.flat, urows_length, brow_len, urow_len, brow_flat, z16_length, bcells_one, bcells_length, bcells_flat]) only [brun_a, ↓brun_b, envOf, reduceIte, Nat.reduceEqDiff, Nat.reduceAdd, Nat.reduceSub, Nat.reduceMul, Nat.reduceBEq, Nat.reduceLeDiff, Nat.reduceLT, beq_self_eq_true, cond_true, cond_false, Int.reduceToNat, tab.u3, tab.s3, tab.a3, tab.u5, tab.s5, tab.a5, tab.u23, tab.s23, tab.a23, tab.u35, tab.s35, tab.a35, ires, brow_len, brow_cell, brows_at, urows_length, urows_at, urow_cell, urow_len, bcells_part, z16_length, bcells_length, alloc23, bcells_splice, bwk_a, frz1, eq_self, implies_true, rho, ↓reduceIte, forall_const]
  · simp -dsimp (decide := true) (maxSteps := 1000000) (disch := first | omega | simp (decide := true) only [bdset_a, nres.flat, tres.flat, urows.flat, urows_length, brow_len, urow_len, brow_flat, z16_length, bcells_one, bcells_length, bcells_flat]) only [brun_a, ↓brun_b, envOf, reduceIte, Nat.reduceEqDiff, Nat.reduceAdd, Nat.reduceSub, Nat.reduceMul, Nat.reduceBEq, Nat.reduceLeDiff, Nat.reduceLT, beq_self_eq_true, cond_true, cond_false, Int.reduceToNat, tab.u3, tab.s3, tab.a3, tab.u5, tab.s5, tab.a5, tab.u23, tab.s23, tab.a23, tab.u35, tab.s35, tab.a35, brow_len, brow_cell, brows_at, urows_length, urows_at, urow_cell, urow_len, bcells_part, z16_length, bcells_length, alloc23, bcells_splice, h1]
    simp only [decide_eq_false_iff_not] at h1
    refine SCond.split (fun h2 => ?_) (fun h2 => ?_)
    · simp only [decide_eq_true_eq] at h2
      rw [if_pos (.inr (by omega))] at hg
      simp -dsimp (decide := true) (maxSteps := 1000000) (disch := first | omega | simp (decide := true) only [bdset_a, nres.flat, tres.flat, urows.flat, urows_length, brow_len, urow_len, brow_flat, z16_length, bcells_one, bcells_length, bcells_flat]) only [brun_a, ↓brun_b, envOf, reduceIte, Nat.reduceEqDiff, Nat.reduceAdd, Nat.reduceSub, Nat.reduceMul, Nat.reduceBEq, Nat.reduceLeDiff, Nat.reduceLT, beq_self_eq_true, cond_true, cond_false, Int.reduceToNat, tab.u3, tab.s3, tab.a3, tab.u5, tab.s5, tab.a5, tab.u23, tab.s23, tab.a23, tab.u35, tab.s35, tab.a35, brow_len, brow_cell, brows_at, urows_length, urows_at, urow_cell, urow_len, bcells_part, z16_length, bcells_length, alloc23, bcells_splice]
      rw [hg]
      refine SQ.answer (rs := [.cell 4 23, .tmp 5, .tmp 6]) rfl rfl ?_
      simp -dsimp (decide := true) (maxSteps := 1000000) (disch := first | omega | simp (decide := true) only [bdset_a, nres.flat, tres.flat, urows.flat, urows_length, brow_len, urow_len, brow_flat, z16_length, bcells_one, bcells_length, bcells_flat]) only [brun_a, ↓brun_b, envOf, reduceIte, Nat.reduceEqDiff, Nat.reduceAdd, Nat.reduceSub, Nat.reduceMul, Nat.reduceBEq, Nat.reduceLeDiff, Nat.reduceLT, beq_self_eq_true, cond_true, cond_false, Int.reduceToNat, tab.u3, tab.s3, tab.a3, tab.u5, tab.s5, tab.a5, tab.u23, tab.s23, tab.a23, tab.u35, tab.s35, tab.a35, ires, brow_len, brow_cell, brows_at, urows_length, urows_at, urow_cell, urow_len, bcells_part, z16_length, bcells_length, alloc23, bcells_splice, bwk_a, frz1, eq_self, implies_true, rho, ↓reduceIte, forall_const]
    · simp only [decide_eq_false_iff_not] at h2
      rw [if_neg (by omega)] at hg
      obtain ⟨a, rfl⟩ : ∃ a : Nat, p = a := ⟨p.toNat, by omega⟩
      simp only [Int.toNat_natCast] at hg
      have hw1 : IntKind.i64.wrap ((l.length : Int) - (a : Int)) = ((l.length - a : Nat) : Int) := by rw [wrap_i64 _ (by omega)]; omega
      simp -dsimp (decide := true) (maxSteps := 1000000) (disch := first | omega | simp (decide := true) only [bdset_a, nres.flat, tres.flat, urows.flat, urows_length, brow_len, urow_len, brow_flat, z16_length, bcells_one, bcells_length, bcells_flat]) only [brun_a, ↓brun_b, envOf, reduceIte, Nat.reduceEqDiff, Nat.reduceAdd, Nat.reduceSub, Nat.reduceMul, Nat.reduceBEq, Nat.reduceLeDiff, Nat.reduceLT, beq_self_eq_true, cond_true, cond_false, Int.reduceToNat, tab.u3, tab.s3, tab.a3, tab.u5, tab.s5, tab.a5, tab.u23, tab.s23, tab.a23, tab.u35, tab.s35, tab.a35, brow_len, brow_cell, brows_at, urows_length, urows_at, urow_cell, urow_len, bcells_part, z16_length, bcells_length, alloc23, bcells_splice, hw1]
      refine SCond.split (fun h3 => ?_) (fun h3 => ?_)
      · simp only [decide_eq_true_eq] at h3
        rw [if_pos (by omega)] at hg
        simp -dsimp (decide := true) (maxSteps := 1000000) (disch := first | omega | simp (decide := true) only [bdset_a, nres.flat, tres.flat, urows.flat, urows_length, brow_len, urow_len, brow_flat, z16_length, bcells_one, bcells_length, bcells_flat]) only [brun_a, ↓brun_b, envOf, reduceIte, Nat.reduceEqDiff, Nat.reduceAdd, Nat.reduceSub, Nat.reduceMul, Nat.reduceBEq, Nat.reduceLeDiff, Nat.reduceLT, beq_self_eq_true, cond_true, cond_false, Int.reduceToNat, tab.u3, tab.s3, tab.a3, tab.u5, tab.s5, tab.a5, tab.u23, tab.s23, tab.a23, tab.u35, tab.s35, tab.a35, brow_len, brow_cell, brows_at, urows_length, urows_at, urow_cell, urow_len, bcells_part, z16_length, bcells_length, alloc23, bcells_splice]
        rw [hg]
        refine SQ.answer (rs := [.cell 4 23, .tmp 5, .tmp 6]) rfl rfl ?_
        simp -dsimp (decide := true) (maxSteps := 1000000) (disch := first | omega | simp (decide := true) only [bdset_a, nres.flat, tres.flat, urows.flat, urows_length, brow_len, urow_len, brow_flat, z16_length, bcells_one, bcells_length, bcells_flat]) only [brun_a, ↓brun_b, envOf, reduceIte, Nat.reduceEqDiff, Nat.reduceAdd, Nat.reduceSub, Nat.reduceMul, Nat.reduceBEq, Nat.reduceLeDiff, Nat.reduceLT, beq_self_eq_true, cond_true, cond_false, Int.reduceToNat, tab.u3, tab.s3, tab.a3, tab.u5, tab.s5, tab.a5, tab.u23, tab.s23, tab.a23, tab.u35, tab.s35, tab.a35, ires, brow_len, brow_cell, brows_at, urows_length, urows_at, urow_cell, urow_len, bcells_part, z16_length, bcells_length, alloc23, bcells_splice, bwk_a, frz1, eq_self, implies_true, rho, ↓reduceIte, forall_const]
      · simp only [decide_eq_false_iff_not] at h3
        rw [if_neg (by omega)] at hg
        have hdl : (l.drop a).length = l.length - a := List.length_drop
        simp -dsimp (decide := true) (maxSteps := 1000000) (disch := first | omega | simp (decide := true) only [bdset_a, nres.flat, tres.flat, urows.flat, urows_length, brow_len, urow_len, brow_flat, z16_length, bcells_one, bcells_length, bcells_flat]) only [brun_a, ↓brun_b, envOf, reduceIte, Nat.reduceEqDiff, Nat.reduceAdd, Nat.reduceSub, Nat.reduceMul, Nat.reduceBEq, Nat.reduceLeDiff, Nat.reduceLT, beq_self_eq_true, cond_true, cond_false, Int.reduceToNat, tab.u3, tab.s3, tab.a3, tab.u5, tab.s5, tab.a5, tab.u23, tab.s23, tab.a23, tab.u35, tab.s35, tab.a35, brow_len, brow_cell, brows_at, urows_length, urows_at, urow_cell, urow_len, bcells_part, z16_length, bcells_length, alloc23, bcells_splice]
        refine Sem.draw' (by kernel_rfl) (.one 0 (.one 1 (.one 2 (.one 3 (.alt 4 .done .non))))) [1] (by kernel_rfl) (fun G ff hG hf => ?_)
        simp (decide := true) only [roL_in, roL_row, roL_nil, roL_none, ro_mk, Nat.zero_add, Nat.reduceAdd, List.length_cons, List.length_nil] at hG ⊢
        have hmin : (l.drop a).length.min 16 = 16 := Nat.min_eq_right (by omega)
        have hlt : ((l.drop a).take 16).length = 16 := by rw [List.length_take]; omega
        simp -dsimp (decide := true) (maxSteps := 1000000) (disch := first | omega | simp (decide := true) only [bdset_a, nres.flat, tres.flat, urows.flat, urows_length, brow_len, urow_len, brow_flat, z16_length, bcells_one, bcells_length, bcells_flat]) only [brun_a, ↓brun_b, envOf, reduceIte, Nat.reduceEqDiff, Nat.reduceAdd, Nat.reduceSub, Nat.reduceMul, Nat.reduceBEq, Nat.reduceLeDiff, Nat.reduceLT, beq_self_eq_true, cond_true, cond_false, Int.reduceToNat, tab.u3, tab.s3, tab.a3, tab.u5, tab.s5, tab.a5, tab.u23, tab.s23, tab.a23, tab.u35, tab.s35, tab.a35, brow_len, brow_cell, brows_at, urows_length, urows_at, urow_cell, urow_len, bcells_part, z16_length, bcells_length, alloc23, bcells_splice, hmin, brows_cells]
        refine And.intro (by omega) ?_
        refine hf _ (Sem.go (k := 1000) ?_)
        simp (decide := true) only [back_mk, backL_in, backL_row, backL_none, backL_nil, Nat.zero_add, Nat.reduceAdd]
        have hw2 : IntKind.i64.wrap ((a : Int) + 16) = (a : Int) + 16 := wrap_i64 _ (by omega)
        have hbl : (bcells ((l.drop a).take 16)).length = 16 := by rw [bcells_length, hlt]
        simp -dsimp (decide := true) (maxSteps := 1000000) (disch := first | omega | simp (decide := true) only [bdset_a, nres.flat, tres.flat, urows.flat, urows_length, brow_len, urow_len, brow_flat, z16_length, bcells_one, bcells_length, bcells_flat]) only [brun_a, ↓brun_b, envOf, reduceIte, Nat.reduceEqDiff, Nat.reduceAdd, Nat.reduceSub, Nat.reduceMul, Nat.reduceBEq, Nat.reduceLeDiff, Nat.reduceLT, beq_self_eq_true, cond_true, cond_false, Int.reduceToNat, tab.u3, tab.s3, tab.a3, tab.u5, tab.s5, tab.a5, tab.u23, tab.s23, tab.a23, tab.u35, tab.s35, tab.a35, brow_len, brow_cell, brows_at, urows_length, urows_at, urow_cell, urow_len, bcells_part, z16_length, bcells_length, alloc23, bcells_splice, hw2]
        rw [hg]
        refine SQ.answer (rs := [.cell 4 23, .tmp 5, .tmp 6]) rfl rfl ?_
        simp -dsimp (decide := true) (maxSteps := 1000000) (disch := first | omega | simp (decide := true) only [bdset_a, nres.flat, tres.flat, urows.flat, urows_length, brow_len, urow_len, brow_flat, z16_length, bcells_one, bcells_length, bcells_flat]) only [brun_a, ↓brun_b, envOf, reduceIte, Nat.reduceEqDiff, Nat.reduceAdd, Nat.reduceSub, Nat.reduceMul, Nat.reduceBEq, Nat.reduceLeDiff, Nat.reduceLT, beq_self_eq_true, cond_true, cond_false, Int.reduceToNat, tab.u3, tab.s3, tab.a3, tab.u5, tab.s5, tab.a5, tab.u23, tab.s23, tab.a23, tab.u35, tab.s35, tab.a35, ires, brow_len, brow_cell, brows_at, urows_length, urows_at, urow_cell, urow_len, bcells_part, z16_length, bcells_length, alloc23, bcells_splice, bwk_a, frz1, eq_self, implies_true, rho, ↓reduceIte, forall_const]
theorem refID_calls (l : List UInt8) (p : Int) (hl : l.length < 4611686018427387904) (hp : -9223372036854775808 ≤ p ∧ p < 9223372036854775808) : Pure Try.prog 70 [bsl l, .v (.int .i64 p)] (ires (getID l p)) := by
  have hg : getID l p = getID l p := rfl
  conv at hg => rhs; unfold getID
  refine SCall.mk (fn := Try.f70) (by kernel_rfl) rfl (Nat.le_of_ble_eq_true (by kernel_rfl)) ?_
  refine Sem.go (k := 1000) ?_
  simp -dsimp (decide := true) (maxSteps := 1000000) (disch := first | omega | simp (decide := true) only [bdset_a, nres.flat, tres.flat, urows.flat, urows_length, brow_len, urow_len, brow_flat, z16_length, bcells_one, bcells_length, bcells_flat]) only [brun_a, ↓brun_b, envOf, reduceIte, Nat.reduceEqDiff, Nat.reduceAdd, Nat.reduceSub, Nat.reduceMul, Nat.reduceBEq, Nat.reduceLeDiff, Nat.reduceLT, beq_self_eq_true, cond_true, cond_false, Int.reduceToNat, tab.u3, tab.s3, tab.a3, tab.u5, tab.s5, tab.a5, tab.u23, tab.s23, tab.a23, tab.u35, tab.s35, tab.a35, brow_len, brow_cell, brows_at, urows_length, urows_at, urow_cell, urow_len, bcells_part, z16_length, bcells_length, alloc23, bcells_splice]
  refine SIf.split (fun h1 => ?_) (fun h1 => ?_)
  · simp -dsimp (decide := true) (maxSteps := 1000000) (disch := first | omega | simp (decide := true) only [bdset_a, nres.flat, tres.flat, urows.flat, urows_length, brow_len, urow_len, brow_flat, z16_length, bcells_one, bcells_length, bcells_flat]) only [brun_a, ↓brun_b, envOf, reduceIte, Nat.reduceEqDiff, Nat.reduceAdd, Nat.reduceSub, Nat.reduceMul, Nat.reduceBEq, Nat.reduceLeDiff, Nat.reduceLT, beq_self_eq_true, cond_true, cond_false, Int.reduceToNat, tab.u3, tab.s3, tab.a3, tab.u5, tab.s5, tab.a5, tab.u23, tab.s23, tab.a23, tab.u35, tab.s35, tab.a35, brow_len, brow_cell, brows_at, urows_length, urows_at, urow_cell, urow_len, bcells_part, z16_length, bcells_length, alloc23, bcells_splice, h1]
    simp only [decide_eq_true_eq] at h1
    rw [if_pos (.inl h1)] at hg
    rw [hg]
    refine SQ.answer (rs := [.cell 4 23, .tmp 5, .tmp 6]) rfl rfl ?_
    simp -dsimp (decide := true) (maxSteps := 1000000) (disch := first | omega | simp (decide := true) only [bdset_a, nres.flat, tres.flat, urows.flat, urows_length, brow_len, urow_len, brow_flat, z16_length, bcells_one, bcells_length, bcells_flat]) only [brun_a, ↓brun_b, envOf, reduceIte, Nat.reduceEqDiff, Nat.reduceAdd, Nat.reduceSub, Nat.reduceMul, Nat.reduceBEq, Nat.reduceLeDiff, Nat.reduceLT, beq_self_eq_true, cond_true, cond_false, Int.reduceToNat, tab.u3, tab.s3, tab.a3, tab.u5, tab.s5, tab.a5, tab.u23, tab.s23, tab.a23, tab.u35, tab.s35, tab.a35, ires, brow_len, brow_cell, brows_at, urows_length, urows_at, urow_cell, urow_len, bcells_part, z16_length, bcells_length, alloc23, bcells_splice, bwk_a, frz1, eq_self, implies_true, rho, ↓reduceIte, forall_const]
  · simp -dsimp (decide := true) (maxSteps := 1000000) (disch := first | omega | simp (decide := true) only [bdset_a, nres.flat, tres.flat, urows.flat, urows_length, brow_len, urow_len, brow_flat, z16_length, bcells_one, bcells_length, bcells_flat]) only [brun_a, ↓brun_b, envOf, reduceIte, Nat.reduceEqDiff, Nat.reduceAdd, Nat.reduceSub, Nat.reduceMul, Nat.reduceBEq, Nat.reduceLeDiff, Nat.reduceLT, beq_self_eq_true, cond_true, cond_false, Int.reduceToNat, tab.u3, tab.s3, tab.a3, tab.u5, tab.s5, tab.a5, tab.u23, tab.s23, tab.a23, tab.u35, tab.s35, tab.a35, brow_len, brow_cell, brows_at, urows_length, urows_at, urow_cell, urow_len, bcells_part, z16_length, bcells_length, alloc23, bcells_splice, h1]
    simp only [decide_eq_false_iff_not] at h1
    refine SCond.split (fun h2 => ?_) (fun h2 => ?_)
    · simp only [decide_eq_true_eq] at h2
      rw [if_pos (.inr (by omega))] at hg
      simp -dsimp (decide := true) (maxSteps := 1000000) (disch := first | omega | simp (decide := true) only [bdset_a, nres.flat, tres.flat, urows.flat, urows_length, brow_len, urow_len, brow_flat, z16_length, bcells_one, bcells_length, bcells_flat]) only [brun_a, ↓brun_b, envOf, reduceIte, Nat.reduceEqDiff, Nat.reduceAdd, Nat.reduceSub, Nat.reduceMul, Nat.reduceBEq, Nat.reduceLeDiff, Nat.reduceLT, beq_self_eq_true, cond_true, cond_false, Int.reduceToNat, tab.u3, tab.s3, tab.a3, tab.u5, tab.s5, tab.a5, tab.u23, tab.s23, tab.a23, tab.u35, tab.s35, tab.a35, brow_len, brow_cell, brows_at, urows_length, urows_at, urow_cell, urow_len, bcells_part, z16_length, bcells_length, alloc23, bcells_splice]
      rw [hg]
      refine SQ.answer (rs := [.cell 4 23, .tmp 5, .tmp 6]) rfl rfl ?_
      simp -dsimp (decide := true) (maxSteps := 1000000) (disch := first | omega | simp (decide := true) only [bdset_a, nres.flat, tres.flat, urows.flat, urows_length, brow_len, urow_len, brow_flat, z16_length, bcells_one, bcells_length, bcells_flat]) only [brun_a, ↓brun_b, envOf, reduceIte, Nat.reduceEqDiff, Nat.reduceAdd, Nat.reduceSub, Nat.reduceMul, Nat.reduceBEq, Nat.reduceLeDiff, Nat.reduceLT, beq_self_eq_true, cond_true, cond_false, Int.reduceToNat, tab.u3, tab.s3, tab.a3, tab.u5, tab.s5, tab.a5, tab.u23, tab.s23, tab.a23, tab.u35, tab.s35, tab.a35, ires, brow_len, brow_cell, brows_at, urows_length, urows_at, urow_cell, urow_len, bcells_part, z16_length, bcells_length, alloc23, bcells_splice, bwk_a, frz1, eq_self, implies_true, rho, ↓reduceIte, forall_const]
    · simp only [decide_eq_false_iff_not] at h2
      rw [if_neg (by omega)] at hg
      obtain ⟨a, rfl⟩ : ∃ a : Nat, p = a := ⟨p.toNat, by omega⟩
      simp only [Int.toNat_natCast] at hg
      have hw1 : IntKind.i64.wrap ((l.length : Int) - (a : Int)) = ((l.length - a : Nat) : Int) := by rw [wrap_i64 _ (by omega)]; omega
      simp -dsimp (decide := true) (maxSteps := 1000000) (disch := first | omega | simp (decide := true) only [bdset_a, nres.flat, tres.flat, urows.flat, urows_length, brow_len, urow_len, brow_flat, z16_length, bcells_one, bcells_length, bcells_flat]) only [brun_a, ↓brun_b, envOf, reduceIte, Nat.reduceEqDiff, Nat.reduceAdd, Nat.reduceSub, Nat.reduceMul, Nat.reduceBEq, Nat.reduceLeDiff, Nat.reduceLT, beq_self_eq_true, cond_true, cond_false, Int.reduceToNat, tab.u3, tab.s3, tab.a3, tab.u5, tab.s5, tab.a5, tab.u23, tab.s23, tab.a23, tab.u35, tab.s35, tab.a35, brow_len, brow_cell, brows_at, urows_length, urows_at, urow_cell, urow_len, bcells_part, z16_length, bcells_length, alloc23, bcells_splice, hw1]
      refine SCond.split (fun h3 => ?_) (fun h3 => ?_)
      · simp only [decide_eq_true_eq] at h3
        rw [if_pos (by omega)] at hg
        simp -dsimp (decide := true) (maxSteps := 1000000) (disch := first | omega | simp (decide := true) only [bdset_a, nres.flat, tres.flat, urows.flat, urows_length, brow_len, urow_len, brow_flat, z16_length, bcells_one, bcells_length, bcells_flat]) only [brun_a, ↓brun_b, envOf, reduceIte, Nat.reduceEqDiff, Nat.reduceAdd, Nat.reduceSub, Nat.reduceMul, Nat.reduceBEq, Nat.reduceLeDiff, Nat.reduceLT, beq_self_eq_true, cond_true, cond_false, Int.reduceToNat, tab.u3, tab.s3, tab.a3, tab.u5, tab.s5, tab.a5, tab.u23, tab.s23, tab.a23, tab.u35, tab.s35, tab.a35, brow_len, brow_cell, brows_at, urows_length, urows_at, urow_cell, urow_len, bcells_part, z16_length, bcells_length, alloc23, bcells_splice]
        rw [hg]
        refine SQ.answer (rs := [.cell 4 23, .tmp 5, .tmp 6]) rfl rfl ?_
        simp -dsimp (decide := true) (maxSteps := 1000000) (disch := first | omega | simp (decide := true) only [bdset_a, nres.flat, tres.flat, urows.flat, urows_length, brow_len, urow_len, brow_flat, z16_length, bcells_one, bcells_length, bcells_flat]) only [brun_a, ↓brun_b, envOf, reduceIte, Nat.reduceEqDiff, Nat.reduceAdd, Nat.reduceSub, Nat.reduceMul, Nat.reduceBEq, Nat.reduceLeDiff, Nat.reduceLT, beq_self_eq_true, cond_true, cond_false, Int.reduceToNat, tab.u3, tab.s3, tab.a3, tab.u5, tab.s5, tab.a5, tab.u23, tab.s23, tab.a23, tab.u35, tab.s35, tab.a35, ires, brow_len, brow_cell, brows_at, urows_length, urows_at, urow_cell, urow_len, bcells_part, z16_length, bcells_length, alloc23, bcells_splice, bwk_a, frz1, eq_self, implies_true, rho, ↓reduceIte, forall_const]
      · simp only [decide_eq_false_iff_not] at h3
        rw [if_neg (by omega)] at hg
        have hlt : ((l.drop a).take 16).length = 16 := by rw [List.length_take, List.length_drop]; omega
        have hgm : ∀ i, i < 16 → ((l.drop a).take 16).getD i 0 = l.getD (a + i) 0 := fun i hi => by
          simp [List.getD_eq_getElem?_getD, List.getElem?_drop, List.getElem?_take, hi]
        generalize (l.drop a).take 16 = m at *
        have hml : ∀ k, k ≤ 16 → (m.take k ++ z16.drop k).length = 16 := fun k hk => by rw [List.length_append, List.length_take, List.length_drop, z16_length]; omega
        simp -dsimp (decide := true) (maxSteps := 1000000) (disch := first | omega | simp (decide := true) only [bdset_a, nres.flat, tres.flat, urows.flat, urows_length, brow_len, urow_len, brow_flat, z16_length, bcells_one, bcells_length, bcells_flat]) only [brun_a, ↓brun_b, envOf, reduceIte, Nat.reduceEqDiff, Nat.reduceAdd, Nat.reduceSub, Nat.reduceMul, Nat.reduceBEq, Nat.reduceLeDiff, Nat.reduceLT, beq_self_eq_true, cond_true, cond_false, Int.reduceToNat, tab.u3, tab.s3, tab.a3, tab.u5, tab.s5, tab.a5, tab.u23, tab.s23, tab.a23, tab.u35, tab.s35, tab.a35, brow_len, brow_cell, brows_at, urows_length, urows_at, urow_cell, urow_len, bcells_part, z16_length, bcells_length, alloc23, bcells_splice]
        refine Sem.loop (ι := {k : Nat // k ≤ 16}) (fun k => ⟨39, 0, [(0, bsl l), (1, .v (.int .i64 (a : Int))), (4, .ptr 0 0 0), (7, .ptr 1 0 0), (8, .v (.int .i64 (k.1 : Int)))],
          [some (.row ⟨16, 1, true, 23, fun _ => bcells z16⟩), some (.row ⟨16, 1, true, 23, fun _ => bcells (m.take k.1 ++ z16.drop k.1)⟩)]⟩) (fun k => 16 - k.1) ⟨0, by omega⟩ [0, 1] ?_ ?_
        · (refine Wk.ofC ?_; simp -dsimp (decide := true) (maxSteps := 1000000) (disch := first | omega | simp (decide := true) only [bdset_a, nres.flat, tres.flat, urows.flat, urows_length, brow_len, urow_len, brow_flat, z16_length, bcells_one, bcells_length, bcells_flat]) only [brun_a, ↓brun_b, envOf, reduceIte, Nat.reduceEqDiff, Nat.reduceAdd, Nat.reduceSub, Nat.reduceMul, Nat.reduceBEq, Nat.reduceLeDiff, Nat.reduceLT, beq_self_eq_true, cond_true, cond_false, Int.reduceToNat, tab.u3, tab.s3, tab.a3, tab.u5, tab.s5, tab.a5, tab.u23, tab.s23, tab.a23, tab.u35, tab.s35, tab.a35, brow_len, brow_cell, brows_at, urows_length, urows_at, urow_cell, urow_len, bcells_part, z16_length, bcells_length, alloc23, bcells_splice, List.take_zero, List.drop_zero, List.nil_append, bwk_a, frz1, eq_self, implies_true, rho, ↓reduceIte, forall_const])
        · rintro ⟨k, hk⟩
          have hmk := hml k hk
          refine Sem.go (k := 1000) ?_
          simp -dsimp (decide := true) (maxSteps := 1000000) (disch := first | omega | simp (decide := true) only [bdset_a, nres.flat, tres.flat, urows.flat, urows_length, brow_len, urow_len, brow_flat, z16_length, bcells_one, bcells_length, bcells_flat]) only [brun_a, ↓brun_b, envOf, reduceIte, Nat.reduceEqDiff, Nat.reduceAdd, Nat.reduceSub, Nat.reduceMul, Nat.reduceBEq, Nat.reduceLeDiff, Nat.reduceLT, beq_self_eq_true, cond_true, cond_false, Int.reduceToNat, tab.u3, tab.s3, tab.a3, tab.u5, tab.s5, tab.a5, tab.u23, tab.s23, tab.a23, tab.u35, tab.s35, tab.a35, brow_len, brow_cell, brows_at, urows_length, urows_at, urow_cell, urow_len, bcells_part, z16_length, bcells_length, alloc23, bcells_splice]
          refine SCond.split (fun h => ?_) (fun h => ?_)
          · simp only [decide_eq_true_eq] at h
            have hk' : k < 16 := by omega
            have hw5 : IntKind.i64.wrap ((k : Int) + 1) = ((k + 1 : Nat) : Int) := by rw [wrap_i64 _ (by omega)]; rfl
            have hw6 : IntKind.i64.wrap ((a : Int) + (k : Int)) = ((a + k : Nat) : Int) := by rw [wrap_i64 _ (by omega)]; rfl
            have hgk := hgm k hk'
            have hsp := z16_splice m hlt k hk'
            simp -dsimp (decide := true) (maxSteps := 1000000) (disch := first | omega | simp (decide := true) only [bdset_a, nres.flat, tres.flat, urows.flat, urows_length, brow_len, urow_len, brow_flat, z16_length, bcells_one, bcells_length, bcells_flat]) only [brun_a, ↓brun_b, envOf, reduceIte, Nat.reduceEqDiff, Nat.reduceAdd, Nat.reduceSub, Nat.reduceMul, Nat.reduceBEq, Nat.reduceLeDiff, Nat.reduceLT, beq_self_eq_true, cond_true, cond_false, Int.reduceToNat, tab.u3, tab.s3, tab.a3, tab.u5, tab.s5, tab.a5, tab.u23, tab.s23, tab.a23, tab.u35, tab.s35, tab.a35, brow_len, brow_cell, brows_at, urows_length, urows_at, urow_cell, urow_len, bcells_part, z16_length, bcells_length, alloc23, bcells_splice, hw5, hw6, ← hgk, hsp]
            refine And.intro (by omega) (And.intro (by omega) ⟨⟨k + 1, by omega⟩, [0, 1], ?_, by show 16 - (k + 1) < 16 - k; omega⟩)
            (refine Wk.ofC ?_; simp -dsimp (decide := true) (maxSteps := 1000000) (disch := first | omega | simp (decide := true) only [bdset_a, nres.flat, tres.flat, urows.flat, urows_length, brow_len, urow_len, brow_flat, z16_length, bcells_one, bcells_length, bcells_flat]) only [brun_a, ↓brun_b, envOf, reduceIte, Nat.reduceEqDiff, Nat.reduceAdd, Nat.reduceSub, Nat.reduceMul, Nat.reduceBEq, Nat.reduceLeDiff, Nat.reduceLT, beq_self_eq_true, cond_true, cond_false, Int.reduceToNat, tab.u3, tab.s3, tab.a3, tab.u5, tab.s5, tab.a5, tab.u23, tab.s23, tab.a23, tab.u35, tab.s35, tab.a35, brow_len, brow_cell, brows_at, urows_length, urows_at, urow_cell, urow_len, bcells_part, z16_length, bcells_length, alloc23, bcells_splice, bwk_a, frz1, eq_self, implies_true, rho, ↓reduceIte, forall_const])
          · simp -dsimp (decide := true) (maxSteps := 1000000) (disch := first | omega | simp (decide := true) only [bdset_a, nres.flat, tres.flat, urows.flat, urows_length, brow_len, urow_len, brow_flat, z16_length, bcells_one, bcells_length, bcells_flat]) only [brun_a, ↓brun_b, envOf, reduceIte, Nat.reduceEqDiff, Nat.reduceAdd, Nat.reduceSub, Nat.reduceMul, Nat.reduceBEq, Nat.reduceLeDiff, Nat.reduceLT, beq_self_eq_true, cond_true, cond_false, Int.reduceToNat, tab.u3, tab.s3, tab.a3, tab.u5, tab.s5, tab.a5, tab.u23, tab.s23, tab.a23, tab.u35, tab.s35, tab.a35, brow_len, brow_cell, brows_at, urows_length, urows_at, urow_cell, urow_len, bcells_part, z16_length, bcells_length, alloc23, bcells_splice]
            simp only [decide_eq_false_iff_not] at h
            obtain rfl : k = 16 := by omega
            have hmt : m.take 16 ++ z16.drop 16 = m := by rw [List.take_of_length_le (by omega), List.drop_of_length_le (by rw [z16_length]; omega), List.append_nil]
            have hw2 : IntKind.i64.wrap ((a : Int) + 16) = (a : Int) + 16 := wrap_i64 _ (by omega)
            have hbl : (bcells m).length = 16 := by rw [bcells_length, hlt]
            simp -dsimp (decide := true) (maxSteps := 1000000) (disch := first | omega | simp (decide := true) only [bdset_a, nres.flat, tres.flat, urows.flat, urows_length, brow_len, urow_len, brow_flat, z16_length, bcells_one, bcells_length, bcells_flat]) only [brun_a, ↓brun_b, envOf, reduceIte, Nat.reduceEqDiff, Nat.reduceAdd, Nat.reduceSub, Nat.reduceMul, Nat.reduceBEq, Nat.reduceLeDiff, Nat.reduceLT, beq_self_eq_true, cond_true, cond_false, Int.reduceToNat, tab.u3, tab.s3, tab.a3, tab.u5, tab.s5, tab.a5, tab.u23, tab.s23, tab.a23, tab.u35, tab.s35, tab.a35, brow_len, brow_cell, brows_at, urows_length, urows_at, urow_cell, urow_len, bcells_part, z16_length, bcells_length, alloc23, bcells_splice, hw2, hmt]
            rw [hg]
            refine SQ.answer (rs := [.cell 4 23, .tmp 5, .tmp 6]) rfl rfl ?_
            simp -dsimp (decide := true) (maxSteps := 1000000) (disch := first | omega | simp (decide := true) only [bdset_a, nres.flat, tres.flat, urows.flat, urows_length, brow_len, urow_len, brow_flat, z16_length, bcells_one, bcells_length, bcells_flat]) only [brun_a, ↓brun_b, envOf, reduceIte, Nat.reduceEqDiff, Nat.reduceAdd, Nat.reduceSub, Nat.reduceMul, Nat.reduceBEq, Nat.reduceLeDiff, Nat.reduceLT, beq_self_eq_true, cond_true, cond_false, Int.reduceToNat, tab.u3, tab.s3, tab.a3, tab.u5, tab.s5, tab.a5, tab.u23, tab.s23, tab.a23, tab.u35, tab.s35, tab.a35, ires, brow_len, brow_cell, brows_at, urows_length, urows_at, urow_cell, urow_len, bcells_part, z16_length, bcells_length, alloc23, bcells_splice, bwk_a, frz1, eq_self, implies_true, rho, ↓reduceIte, forall_const]
end Go.Proofs
