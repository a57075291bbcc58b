/- WireNew, told of values. -/
import Derived.Test.YtheodenjjaoncaaWireM
set_option linter.unusedVariables false
set_option linter.unusedSimpArgs false
namespace Go.Proofs
open Go Go.SL
set_option maxRecDepth 100000
theorem bs44_1 (N : Nat) (t : List UInt8) : sBuildSlice Try.prog N 44 1 [(0, bsl t)] = some ⟨.slc N 0 1, ⟨none, some (.row ⟨1, 1, true, 35, fun e => (([bsl t] : List SV).drop (e * 1)).take 1⟩)⟩, True⟩ :=
  buildSlice_one tab.u44 tab.s35 tab.z35 (by decide) rfl (by decide) [bsl t] _ rfl rfl rfl
theorem ent_trow1 {fz : Nat → Option SB} {ρ : Nat → Nat} {t : List UInt8} {i : Nat} {r : List SV} (h : (trows [t])[i]? = some r) : EntL fz ρ r ((([bsl t] : List SV).drop (0 + i)).take 1) := by
  match i, h with
  | 0, h =>
    obtain rfl : [bsl t] = r := by simpa [trows] using h
    exact EntL.self (by simp only [flatL_cons, flatL_nil, flat_rsl, flatR_brows, Bool.and_self])
  | i + 1, h => simp [trows] at h
/-- The first so many are changed. -/
def rowX (l : List UInt8) (g : UInt8 → Int) (k e : Nat) : List SV := if e < k then [.v (.int .u8 (g (l.getD e 0)))] else brow l e
theorem rowX_zero (l : List UInt8) (g : UInt8 → Int) : rowX l g 0 = brow l := by
  funext e
  rw [rowX, if_neg (by omega)]
theorem rowX_len (l : List UInt8) (g : UInt8 → Int) (k e : Nat) : (rowX l g k e).length = 1 := by unfold rowX; split <;> rfl
theorem rowX_flat (l : List UInt8) (g : UInt8 → Int) (k e : Nat) : SV.flatL (rowX l g k e) = true := by unfold rowX; split <;> rfl
theorem rowX_at (l : List UInt8) (g : UInt8 → Int) (k : Nat) : cellAt (rowX l g k k) 0 = .v (.int .u8 ((l.getD k 0).toNat : Int)) := by
  rw [rowX, if_neg (by omega)]
  rfl
theorem rowX_step (l : List UInt8) (g : UInt8 → Int) (k i : Nat) (hk : k < l.length) (hi : i < l.length) : updE l.length (rowX l g k) k 0 [.v (.int .u8 (g (l.getD k 0)))] i = rowX l g (k + 1) i := by
  rw [updE_at _ _ _ _ _ _ hk hi]
  split
  · rename_i h
    subst h
    rw [rowX, if_neg (by omega), rowX, if_pos (by omega)]
    rfl
  · unfold rowX
    by_cases h : i < k
    · rw [if_pos h, if_pos (by omega)]
    · rw [if_neg h, if_neg (by omega)]
theorem new_calls (b : List UInt8) (hb : b.length + 9 ≤ 140737488355328) : Pure Try.prog 16 [bsl b] (.v (.bool true)) := by
  have hpt : ptexts [b] = form b.length ++ b := by rw [ptexts, List.flatMap_cons, List.flatMap_nil, List.append_nil]
  have hfl := form_length b.length
  have hw8 := wide_le8 b.length (by omega)
  have hlen : (ptexts [b]).length = (form b.length).length + b.length := by rw [hpt, List.length_append]
  have hget : getText (ptexts [b]) 0 b.length = (b, ((form b.length).length : Int) + b.length, 0) := by
    have := getText_form [] [] b (by omega)
    rw [List.nil_append, List.append_nil, ← hpt] at this
    simp only [List.length_nil] at this
    rw [show ((0 : Nat) : Int) = 0 from rfl, Int.zero_add] at this
    exact this
  refine SCall.mk (fn := Try.f16) (by kernel_rfl) rfl (Nat.le_of_ble_eq_true (by kernel_rfl)) ?_
  refine Sem.go (k := 1000) ?_
  simp -dsimp (decide := true) (maxSteps := 1000000) (disch := first | omega | simp (decide := true) only [bdset_a, nres.flat, tres.flat, ires.flat, urows.flat, urows_length, brow_len, urow_len, brow_flat, trows_flat, trows_length, trow_len, rowX_len, rowX_flat]) only [brun_a, ↓brun_b, envOf, reduceIte, Nat.reduceEqDiff, Nat.reduceAdd, Nat.reduceSub, Nat.reduceMul, Nat.reduceBEq, Nat.reduceLeDiff, Nat.reduceLT, beq_self_eq_true, cond_true, cond_false, Int.reduceToNat, tab.u3, tab.s3, tab.a3, tab.u5, tab.s5, tab.a5, tab.u9, tab.s9, tab.a9, tab.u35, tab.s35, tab.a35, tab.u37, tab.s37, tab.a37, tab.u44, tab.s44, tab.a44, brow_len, brow_cell, brows_at, urows_length, urows_at, urow_cell, urow_len, trows_length, trows_at, trow_cell, trow_len, bs44_1]
  refine SemOps.frz (d := 9) (trows [b]) rfl rfl rfl (by omega) (fun i r h => ent_trow1 h) ?_
  refine SemOps.callo (k := 1000) cal.f47 (putText_owns [b] (by omega) (by rw [List.length_singleton]; omega)) rfl rfl rfl rfl (by simp only [bflat_a, nres.flat, tres.flat, ires.flat, urows.flat, brow_flat, trows_flat, rowX_flat]) (brow_flat _) (by simp -dsimp (decide := true) (maxSteps := 1000000) (disch := first | omega | simp (decide := true) only [bdset_a, nres.flat, tres.flat, ires.flat, urows.flat, urows_length, brow_len, urow_len, brow_flat, trows_flat, trows_length, trow_len, rowX_len, rowX_flat]) only [brun_a, ↓brun_b, envOf, reduceIte, Nat.reduceEqDiff, Nat.reduceAdd, Nat.reduceSub, Nat.reduceMul, Nat.reduceBEq, Nat.reduceLeDiff, Nat.reduceLT, beq_self_eq_true, cond_true, cond_false, Int.reduceToNat, tab.u3, tab.s3, tab.a3, tab.u5, tab.s5, tab.a5, tab.u9, tab.s9, tab.a9, tab.u35, tab.s35, tab.a35, tab.u37, tab.s37, tab.a37, tab.u44, tab.s44, tab.a44]) ?_
  simp -dsimp (decide := true) (maxSteps := 1000000) (disch := first | omega | simp (decide := true) only [bdset_a, nres.flat, tres.flat, ires.flat, urows.flat, urows_length, brow_len, urow_len, brow_flat, trows_flat, trows_length, trow_len, rowX_len, rowX_flat]) only [brun_a, ↓brun_b, envOf, reduceIte, Nat.reduceEqDiff, Nat.reduceAdd, Nat.reduceSub, Nat.reduceMul, Nat.reduceBEq, Nat.reduceLeDiff, Nat.reduceLT, beq_self_eq_true, cond_true, cond_false, Int.reduceToNat, tab.u3, tab.s3, tab.a3, tab.u5, tab.s5, tab.a5, tab.u9, tab.s9, tab.a9, tab.u35, tab.s35, tab.a35, tab.u37, tab.s37, tab.a37, tab.u44, tab.s44, tab.a44, brow_len, brow_cell, brows_at, urows_length, urows_at, urow_cell, urow_len, trows_length, trows_at, trow_cell, trow_len]
  have hrd := getText_reads (ptexts [b]) 0 b.length (by omega) (by decide) (by omega)
  rw [hget] at hrd
  generalize ptexts [b] = l at *
  refine SemOps.callr (k := 1000) rfl rfl rfl (fn := Try.f66) (by kernel_rfl) rfl (by kernel_rfl) [1] hrd rfl rfl (fun ρ => SV.flat_ren ρ _ (tres.flat _)) (by decide) (And.intro (And.intro rfl (And.intro rfl (And.intro rfl (And.intro (fun _ => rfl) (fun e _ => EntL.self (brow_flat _ _)))))) trivial) (by simp -dsimp (decide := true) (maxSteps := 1000000) (disch := first | omega | simp (decide := true) only [bdset_a, nres.flat, tres.flat, ires.flat, urows.flat, urows_length, brow_len, urow_len, brow_flat, trows_flat, trows_length, trow_len, rowX_len, rowX_flat]) only [brun_a, ↓brun_b, envOf, reduceIte, Nat.reduceEqDiff, Nat.reduceAdd, Nat.reduceSub, Nat.reduceMul, Nat.reduceBEq, Nat.reduceLeDiff, Nat.reduceLT, beq_self_eq_true, cond_true, cond_false, Int.reduceToNat, tab.u3, tab.s3, tab.a3, tab.u5, tab.s5, tab.a5, tab.u9, tab.s9, tab.a9, tab.u35, tab.s35, tab.a35, tab.u37, tab.s37, tab.a37, tab.u44, tab.s44, tab.a44]) ?_
  simp -dsimp (decide := true) (maxSteps := 1000000) (disch := first | omega | simp (decide := true) only [bdset_a, nres.flat, tres.flat, ires.flat, urows.flat, urows_length, brow_len, urow_len, brow_flat, trows_flat, trows_length, trow_len, rowX_len, rowX_flat]) only [brun_a, ↓brun_b, envOf, reduceIte, Nat.reduceEqDiff, Nat.reduceAdd, Nat.reduceSub, Nat.reduceMul, Nat.reduceBEq, Nat.reduceLeDiff, Nat.reduceLT, beq_self_eq_true, cond_true, cond_false, Int.reduceToNat, tab.u3, tab.s3, tab.a3, tab.u5, tab.s5, tab.a5, tab.u9, tab.s9, tab.a9, tab.u35, tab.s35, tab.a35, tab.u37, tab.s37, tab.a37, tab.u44, tab.s44, tab.a44, brow_len, brow_cell, brows_at, urows_length, urows_at, urow_cell, urow_len, trows_length, trows_at, trow_cell, trow_len, tres]
  refine Sem.loop (ι := {k : Nat // k ≤ l.length}) (fun k => ⟨43, 0, [(0, bsl b), (4, bsl b), (6, .v (.int .i64 0)), (3, .slc 0 0 l.length), (20, .v (.int .i64 (l.length : Int))), (21, .v (.int .i64 (k.1 : Int)))], [some (.row ⟨1, l.length, true, 5, rowX l (fun c => ibits .xor .u8 (c.toNat : Int) 255) k.1⟩)]⟩) (fun k => l.length - k.1) ⟨0, by omega⟩ [1] ?_ ?_
  · (refine Wk.ofC ?_; simp -dsimp (decide := true) (maxSteps := 1000000) (disch := first | omega | simp (decide := true) only [bdset_a, nres.flat, tres.flat, ires.flat, urows.flat, urows_length, brow_len, urow_len, brow_flat, trows_flat, trows_length, trow_len, rowX_len, rowX_flat]) only [brun_a, ↓brun_b, envOf, reduceIte, Nat.reduceEqDiff, Nat.reduceAdd, Nat.reduceSub, Nat.reduceMul, Nat.reduceBEq, Nat.reduceLeDiff, Nat.reduceLT, beq_self_eq_true, cond_true, cond_false, Int.reduceToNat, tab.u3, tab.s3, tab.a3, tab.u5, tab.s5, tab.a5, tab.u9, tab.s9, tab.a9, tab.u35, tab.s35, tab.a35, tab.u37, tab.s37, tab.a37, tab.u44, tab.s44, tab.a44, brow_len, brow_cell, brows_at, urows_length, urows_at, urow_cell, urow_len, trows_length, trows_at, trow_cell, trow_len, rowX_zero, bwk_a, frz1, eq_self, implies_true, rho, ↓reduceIte, forall_const])
  · rintro ⟨k, hk⟩
    refine Sem.go (k := 1000) ?_
    simp -dsimp (decide := true) (maxSteps := 1000000) (disch := first | omega | simp (decide := true) only [bdset_a, nres.flat, tres.flat, ires.flat, urows.flat, urows_length, brow_len, urow_len, brow_flat, trows_flat, trows_length, trow_len, rowX_len, rowX_flat]) only [brun_a, ↓brun_b, envOf, reduceIte, Nat.reduceEqDiff, Nat.reduceAdd, Nat.reduceSub, Nat.reduceMul, Nat.reduceBEq, Nat.reduceLeDiff, Nat.reduceLT, beq_self_eq_true, cond_true, cond_false, Int.reduceToNat, tab.u3, tab.s3, tab.a3, tab.u5, tab.s5, tab.a5, tab.u9, tab.s9, tab.a9, tab.u35, tab.s35, tab.a35, tab.u37, tab.s37, tab.a37, tab.u44, tab.s44, tab.a44, brow_len, brow_cell, brows_at, urows_length, urows_at, urow_cell, urow_len, trows_length, trows_at, trow_cell, trow_len]
    refine SCond.split (fun h => ?_) (fun h => ?_)
    · simp only [decide_eq_true_eq] at h
      have hk' : k < l.length := by omega
      have hw : IntKind.i64.wrap ((k : Int) + 1) = ((k + 1 : Nat) : Int) := by rw [wrap_i64 _ (by omega)]; rfl
      simp -dsimp (decide := true) (maxSteps := 1000000) (disch := first | omega | simp (decide := true) only [bdset_a, nres.flat, tres.flat, ires.flat, urows.flat, urows_length, brow_len, urow_len, brow_flat, trows_flat, trows_length, trow_len, rowX_len, rowX_flat]) only [brun_a, ↓brun_b, envOf, reduceIte, Nat.reduceEqDiff, Nat.reduceAdd, Nat.reduceSub, Nat.reduceMul, Nat.reduceBEq, Nat.reduceLeDiff, Nat.reduceLT, beq_self_eq_true, cond_true, cond_false, Int.reduceToNat, tab.u3, tab.s3, tab.a3, tab.u5, tab.s5, tab.a5, tab.u9, tab.s9, tab.a9, tab.u35, tab.s35, tab.a35, tab.u37, tab.s37, tab.a37, tab.u44, tab.s44, tab.a44, brow_len, brow_cell, brows_at, urows_length, urows_at, urow_cell, urow_len, trows_length, trows_at, trow_cell, trow_len, hw, rowX_at, sstore2_nint]
      refine And.intro (by omega) (And.intro hk' (And.intro (by omega) (And.intro hk' ⟨⟨k + 1, by omega⟩, [0], ?_, by show l.length - (k + 1) < l.length - k; omega⟩)))
      (refine Wk.ofC ?_; simp -dsimp (decide := true) (maxSteps := 1000000) (disch := first | omega | simp (decide := true) only [bdset_a, nres.flat, tres.flat, ires.flat, urows.flat, urows_length, brow_len, urow_len, brow_flat, trows_flat, trows_length, trow_len, rowX_len, rowX_flat]) only [brun_a, ↓brun_b, envOf, reduceIte, Nat.reduceEqDiff, Nat.reduceAdd, Nat.reduceSub, Nat.reduceMul, Nat.reduceBEq, Nat.reduceLeDiff, Nat.reduceLT, beq_self_eq_true, cond_true, cond_false, Int.reduceToNat, tab.u3, tab.s3, tab.a3, tab.u5, tab.s5, tab.a5, tab.u9, tab.s9, tab.a9, tab.u35, tab.s35, tab.a35, tab.u37, tab.s37, tab.a37, tab.u44, tab.s44, tab.a44, brow_len, brow_cell, brows_at, urows_length, urows_at, urow_cell, urow_len, trows_length, trows_at, trow_cell, trow_len, bwk_a, frz1, eq_self, implies_true, rho, ↓reduceIte, forall_const])
      intro e he
      have hst := rowX_step l (fun c => ibits .xor .u8 (c.toNat : Int) 255) k e hk' he
      rw [hst]
      exact EntL.self (rowX_flat _ _ _ _)
    · simp -dsimp (decide := true) (maxSteps := 1000000) (disch := first | omega | simp (decide := true) only [bdset_a, nres.flat, tres.flat, ires.flat, urows.flat, urows_length, brow_len, urow_len, brow_flat, trows_flat, trows_length, trow_len, rowX_len, rowX_flat]) only [brun_a, ↓brun_b, envOf, reduceIte, Nat.reduceEqDiff, Nat.reduceAdd, Nat.reduceSub, Nat.reduceMul, Nat.reduceBEq, Nat.reduceLeDiff, Nat.reduceLT, beq_self_eq_true, cond_true, cond_false, Int.reduceToNat, tab.u3, tab.s3, tab.a3, tab.u5, tab.s5, tab.a5, tab.u9, tab.s9, tab.a9, tab.u35, tab.s35, tab.a35, tab.u37, tab.s37, tab.a37, tab.u44, tab.s44, tab.a44, brow_len, brow_cell, brows_at, urows_length, urows_at, urow_cell, urow_len, trows_length, trows_at, trow_cell, trow_len]
      refine SemOps.callq (k := 1000) cal.f43 (fixed3_calls) rfl rfl rfl rfl (by simp only [bflat_a, nres.flat, tres.flat, ires.flat, urows.flat, brow_flat, trows_flat, rowX_flat]) (by simp only [bflat_a, nres.flat, tres.flat, ires.flat, urows.flat, brow_flat, trows_flat, rowX_flat]) (by simp -dsimp (decide := true) (maxSteps := 1000000) (disch := first | omega | simp (decide := true) only [bdset_a, nres.flat, tres.flat, ires.flat, urows.flat, urows_length, brow_len, urow_len, brow_flat, trows_flat, trows_length, trow_len, rowX_len, rowX_flat]) only [brun_a, ↓brun_b, envOf, reduceIte, Nat.reduceEqDiff, Nat.reduceAdd, Nat.reduceSub, Nat.reduceMul, Nat.reduceBEq, Nat.reduceLeDiff, Nat.reduceLT, beq_self_eq_true, cond_true, cond_false, Int.reduceToNat, tab.u3, tab.s3, tab.a3, tab.u5, tab.s5, tab.a5, tab.u9, tab.s9, tab.a9, tab.u35, tab.s35, tab.a35, tab.u37, tab.s37, tab.a37, tab.u44, tab.s44, tab.a44]) ?_
      simp -dsimp (decide := true) (maxSteps := 1000000) (disch := first | omega | simp (decide := true) only [bdset_a, nres.flat, tres.flat, ires.flat, urows.flat, urows_length, brow_len, urow_len, brow_flat, trows_flat, trows_length, trow_len, rowX_len, rowX_flat]) only [brun_a, ↓brun_b, envOf, reduceIte, Nat.reduceEqDiff, Nat.reduceAdd, Nat.reduceSub, Nat.reduceMul, Nat.reduceBEq, Nat.reduceLeDiff, Nat.reduceLT, beq_self_eq_true, cond_true, cond_false, Int.reduceToNat, tab.u3, tab.s3, tab.a3, tab.u5, tab.s5, tab.a5, tab.u9, tab.s9, tab.a9, tab.u35, tab.s35, tab.a35, tab.u37, tab.s37, tab.a37, tab.u44, tab.s44, tab.a44, brow_len, brow_cell, brows_at, urows_length, urows_at, urow_cell, urow_len, trows_length, trows_at, trow_cell, trow_len]
      refine SQ.answer (rs := [.tmp 2]) rfl rfl ?_
      simp -dsimp (decide := true) (maxSteps := 1000000) (disch := first | omega | simp (decide := true) only [bdset_a, nres.flat, tres.flat, ires.flat, urows.flat, urows_length, brow_len, urow_len, brow_flat, trows_flat, trows_length, trow_len, rowX_len, rowX_flat]) only [brun_a, ↓brun_b, envOf, reduceIte, Nat.reduceEqDiff, Nat.reduceAdd, Nat.reduceSub, Nat.reduceMul, Nat.reduceBEq, Nat.reduceLeDiff, Nat.reduceLT, beq_self_eq_true, cond_true, cond_false, Int.reduceToNat, tab.u3, tab.s3, tab.a3, tab.u5, tab.s5, tab.a5, tab.u9, tab.s9, tab.a9, tab.u35, tab.s35, tab.a35, tab.u37, tab.s37, tab.a37, tab.u44, tab.s44, tab.a44, bwk_a, frz1, eq_self, implies_true, rho, ↓reduceIte, forall_const]
theorem wireNew_law (l0 : List SV) (h0 : ClsC Try.prog 20 35 l0) : Pure Try.prog 16 [cellAt l0 0] (.v (.bool true)) := by
  obtain ⟨b, rfl, hb⟩ := cls_bytes h0
  exact new_calls b (by simp only [reachBytes] at hb; omega)
end Go.Proofs
