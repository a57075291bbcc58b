/- SameAll of two lists that others own. -/
import Derived.Test.YtheodenjjaoncaaWinJ
set_option linter.unusedVariables false
set_option linter.unusedSimpArgs false
namespace Go.SL
open Go
def famP (ts : List (List UInt8)) : List (Nat × (Nat → List SV)) := ts.map fun t => (t.length, brow t)
def famR (ts : List (List UInt8)) : List (Option SK) := rowsL false 5 1 (famP ts)
theorem famL_eq (ts : List (List UInt8)) : famL ts = rowsL true 5 1 (famP ts) := by simp [famL, rowsL, famP]
theorem famR_at (ts : List (List UInt8)) (k : Nat) (h : k < ts.length) : getL (famR ts) k = some (.row ⟨1, (ts.getD k []).length, false, 5, brow (ts.getD k [])⟩) := by
  simp [getL, famR, famP, rowsL, List.getElem?_eq_getElem h]
theorem famR_len (ts : List (List UInt8)) : (famR ts).length = ts.length := by simp [famR, famP, rowsL]
theorem famR_ro (ts : List (List UInt8)) (i : Nat) : roL [] i (famR ts) = famR ts := roL_rowsL _ _ _ _ _
theorem famL_ro (ts : List (List UInt8)) (i : Nat) : roL [] i (famL ts) = famR ts := by rw [famL_eq]; exact roL_rowsL _ _ _ _ _
theorem famR_back (ts : List (List UInt8)) (i : Nat) : backL [] i (famR ts) (famR ts) = famR ts := backL_rowsL _ _ _ _ _ _ _ rfl
theorem famL_back (ts : List (List UInt8)) (i : Nat) : backL [] i (famL ts) (famR ts) = famL ts := by rw [famL_eq]; exact backL_rowsL _ _ _ _ _ _ _ rfl
theorem famR_ent {fz : Nat → Option SB} {ρ : Nat → Nat} {ts : List (List UInt8)} {i : Nat} {K : SK} (h : (famR ts)[i]? = some (some K)) : EntK fz ρ K K := by
  rw [famR, rowsL, famP, List.map_map, List.getElem?_map] at h
  cases ht : ts[i]? with
  | none => rw [ht] at h; cases h
  | some t =>
    rw [ht] at h
    have h : some (SK.row ⟨1, t.length, false, 5, brow t⟩) = some K := by simpa using h
    cases h
    exact EntK_flat fun e => brow_flat t e
theorem getL_2 (a b : Option SK) (F : List (Option SK)) (k : Nat) : getL (a :: b :: F) (2 + k) = getL F k := by
  rw [Nat.add_comm]; rfl
theorem getL_5 (a b c d e : Option SK) (F : List (Option SK)) (k : Nat) : getL (a :: b :: c :: d :: e :: F) (5 + k) = getL F k := by
  rw [Nat.add_comm]; rfl
theorem set_5 (a b c d e : Option SK) (F : List (Option SK)) (k : Nat) (x : Option SK) : (a :: b :: c :: d :: e :: F).set (5 + k) x = a :: b :: c :: d :: e :: F.set k x := by
  rw [Nat.add_comm]; rfl
theorem frow_cell (c : Nat) (ts : List (List UInt8)) (k : Nat) : cellAt (frow c ts k) 0 = .slc (c + k) 0 (ts.getD k []).length := Eq.trans rfl rfl
theorem rog_famR (ts : List (List UInt8)) (k : Nat) (h : k < ts.length) : rog (getL (famR ts) k) = some (.row ⟨1, (ts.getD k []).length, false, 5, brow (ts.getD k [])⟩) := by
  rw [famR_at ts k h]; rfl
theorem take_min64 (l : List UInt8) : l.take (if (64 : Int) < (l.length : Int) then (64 : Int) else (l.length : Int)).toNat = l.take 64 := by
  split
  · rfl
  · rw [Int.toNat_natCast, List.take_of_length_le (Nat.le_refl _), List.take_of_length_le (by omega)]
theorem getD_mem {α : Type} (l : List α) (r : Nat) (d : α) (h : r < l.length) : l.getD r d ∈ l := by
  rw [List.getD_eq_getElem?_getD, List.getElem?_eq_getElem h, Option.getD_some]
  exact List.getElem_mem h
end Go.SL
namespace Go.Proofs
open Go Go.SL
set_option maxRecDepth 100000
theorem trow_drop (S : List (List UInt8)) (a k : Nat) : trow S (a + k) = trow (S.drop a) k := by simp [trow, List.getD_eq_getElem?_getD]
theorem sameAllR_calls (S : List (List UInt8)) (a : Nat) (ha : a ≤ S.length) (h : S.length < 4611686018427387904) :
    SCall Try.prog 58 [.slc 1 0 (S.length - a), .slc 0 a (S.length - a)] (some (.row ⟨1, S.length, false, 35, trow S⟩) :: some (.row ⟨1, S.length - a, false, 35, frow 2 (S.drop a)⟩) :: famR (S.drop a))
      fun r L => r = .ret (.v (.bool true)) ∧ L = List.replicate (2 + (S.length - a)) none := by
  have hl : (S.drop a).length = S.length - a := by simp
  have hFl : (famR (S.drop a)).length = S.length - a := by rw [famR_len, hl]
  have hFat := famR_at (S.drop a)
  have hFrg := rog_famR (S.drop a)
  have hFro := famR_ro (S.drop a)
  have hFbk := famR_back (S.drop a)
  have htr := fun k => trow_drop S a k
  rw [hl] at hFat hFrg
  generalize S.drop a = ts at *
  generalize famR ts = F at *
  generalize hn : S.length - a = n at *
  refine SCall.mk (fn := Try.f58) (by kernel_rfl) rfl (Nat.le_of_ble_eq_true (by kernel_rfl)) ?_
  refine Sem.go (k := 1000) ?_
  simp -dsimp (decide := true) (maxSteps := 1000000) (disch := first | omega | simp (decide := true) only [bdset_a, brow_len, brow_flat, trow_len, trow_flat, trows_flat, trows_length, frow_len]) only [brun_a, ↓brun_b, envOf, reduceIte, Nat.reduceEqDiff, Nat.reduceAdd, Nat.reduceSub, Nat.reduceMul, Nat.reduceBEq, Nat.reduceLeDiff, Nat.reduceLT, beq_self_eq_true, cond_true, cond_false, Int.reduceToNat, tab.u3, tab.s3, tab.a3, tab.u5, tab.s5, tab.a5, tab.u9, tab.s9, tab.a9, tab.u35, tab.s35, tab.a35, tab.u44, tab.s44, tab.a44, cellAt_zero, cellAt_succ, splice, List.take_succ_cons, List.take_zero, List.drop_succ_cons, List.drop_zero, List.drop_nil, brow_len, brow_cell, trow_len, trow_cell, frow_len, frow_cell]
  refine Sem.loop (ι := {k : Nat // k ≤ n}) (fun k => ⟨28, n + 1 + 1, [(0, .slc 1 0 n), (1, .slc 0 a n), (5, .v (.int .i64 (k.1 : Int)))], some (.row ⟨1, S.length, false, 35, trow S⟩) :: some (.row ⟨1, n, false, 35, frow 2 ts⟩) :: F⟩) (fun k => n - k.1) ⟨0, by omega⟩ (List.range (n + 2)) ?_ ?_
  · rw [hFl]
    refine Wk.fewer ?_ ?_ ?_
    · simp [hFl]
    · simp [hFl]
    · simp -dsimp (decide := true) (maxSteps := 1000000) (disch := first | omega | simp (decide := true) only [bdset_a, brow_len, brow_flat, trow_len, trow_flat, trows_flat, trows_length, frow_len]) only [brun_a, ↓brun_b, envOf, reduceIte, Nat.reduceEqDiff, Nat.reduceAdd, Nat.reduceSub, Nat.reduceMul, Nat.reduceBEq, Nat.reduceLeDiff, Nat.reduceLT, beq_self_eq_true, cond_true, cond_false, Int.reduceToNat, tab.u3, tab.s3, tab.a3, tab.u5, tab.s5, tab.a5, tab.u9, tab.s9, tab.a9, tab.u35, tab.s35, tab.a35, tab.u44, tab.s44, tab.a44, cellAt_zero, cellAt_succ, splice, List.take_succ_cons, List.take_zero, List.drop_succ_cons, List.drop_zero, List.drop_nil, brow_len, brow_cell, trow_len, trow_cell, frow_len, frow_cell]
      simp only [List.mem_cons, List.not_mem_nil, or_false]
      rintro p (rfl | rfl | rfl) <;> rfl
  · rintro ⟨k, hk⟩
    refine Sem.go (k := 1000) ?_
    simp -dsimp (decide := true) (maxSteps := 1000000) (disch := first | omega | simp (decide := true) only [bdset_a, brow_len, brow_flat, trow_len, trow_flat, trows_flat, trows_length, frow_len]) only [brun_a, ↓brun_b, envOf, reduceIte, Nat.reduceEqDiff, Nat.reduceAdd, Nat.reduceSub, Nat.reduceMul, Nat.reduceBEq, Nat.reduceLeDiff, Nat.reduceLT, beq_self_eq_true, cond_true, cond_false, Int.reduceToNat, tab.u3, tab.s3, tab.a3, tab.u5, tab.s5, tab.a5, tab.u9, tab.s9, tab.a9, tab.u35, tab.s35, tab.a35, tab.u44, tab.s44, tab.a44, cellAt_zero, cellAt_succ, splice, List.take_succ_cons, List.take_zero, List.drop_succ_cons, List.drop_zero, List.drop_nil, brow_len, brow_cell, trow_len, trow_cell, frow_len, frow_cell]
    refine SCond.split (fun h1 => ?_) (fun h1 => ?_)
    · simp only [decide_eq_true_eq] at h1
      have hk' : k < n := by omega
      have hw : IntKind.i64.wrap ((k : Int) + 1) = ((k + 1 : Nat) : Int) := by rw [wrap_i64 _ (by omega)]; rfl
      simp -dsimp (decide := true) (maxSteps := 1000000) (disch := first | omega | simp (decide := true) only [bdset_a, brow_len, brow_flat, trow_len, trow_flat, trows_flat, trows_length, frow_len]) only [brun_a, ↓brun_b, envOf, reduceIte, Nat.reduceEqDiff, Nat.reduceAdd, Nat.reduceSub, Nat.reduceMul, Nat.reduceBEq, Nat.reduceLeDiff, Nat.reduceLT, beq_self_eq_true, cond_true, cond_false, Int.reduceToNat, tab.u3, tab.s3, tab.a3, tab.u5, tab.s5, tab.a5, tab.u9, tab.s9, tab.a9, tab.u35, tab.s35, tab.a35, tab.u44, tab.s44, tab.a44, cellAt_zero, cellAt_succ, splice, List.take_succ_cons, List.take_zero, List.drop_succ_cons, List.drop_zero, List.drop_nil, brow_len, brow_cell, trow_len, trow_cell, frow_len, frow_cell]
      refine Sem.draw' (by kernel_rfl) (.one 0 (.one 1 (.one 2 (.one 3 (.one 4 (.one 5 (.one 6 (.one 7 (.one 8 (.one 9 (.one 10 .done))))))))))) [] (by kernel_rfl) (fun G ff hG hf => ?_)
      simp (decide := true) only [roL_in, roL_row, roL_nil, roL_none, ro_mk, Nat.zero_add, Nat.reduceAdd, List.length_cons, List.length_nil] at hG ⊢
      obtain ⟨u1, u2⟩ := bytesOfRow_eq (ts.getD k []).length false 5 (brow (ts.getD k [])) 0 (ts.getD k []).length (ts.getD k []) rfl (fun i hi => by rw [Nat.zero_add]; rfl)
      have hSd : S.getD (a + k) [] = ts.getD k [] := by
        have := htr k
        simp only [trow, List.cons.injEq, and_true] at this
        injection this with h2 h3
        have h4 := congrArg bytesOfRows h3
        rwa [bytes_brows, bytes_brows] at h4
      simp -dsimp (decide := true) (maxSteps := 1000000) (disch := first | omega | simp (decide := true) only [bdset_a, brow_len, brow_flat, trow_len, trow_flat, trows_flat, trows_length, frow_len]) only [brun_a, ↓brun_b, envOf, reduceIte, Nat.reduceEqDiff, Nat.reduceAdd, Nat.reduceSub, Nat.reduceMul, Nat.reduceBEq, Nat.reduceLeDiff, Nat.reduceLT, beq_self_eq_true, cond_true, cond_false, Int.reduceToNat, tab.u3, tab.s3, tab.a3, tab.u5, tab.s5, tab.a5, tab.u9, tab.s9, tab.a9, tab.u35, tab.s35, tab.a35, tab.u44, tab.s44, tab.a44, cellAt_zero, cellAt_succ, splice, List.take_succ_cons, List.take_zero, List.drop_succ_cons, List.drop_zero, List.drop_nil, brow_len, brow_cell, trow_len, trow_cell, frow_len, frow_cell, hG, hFro, getL_2, hFrg, u1, u2, hSd]
      refine And.intro (by omega) (And.intro hk' (And.intro (Nat.le_refl _) (And.intro (by omega) (And.intro (by omega) ?_))))
      refine hf _ (Sem.go (k := 1000) ?_)
      simp (decide := true) only [back_mk, backL_in, backL_row, backL_none, backL_nil, Nat.zero_add, Nat.reduceAdd]
      simp -dsimp (decide := true) (maxSteps := 1000000) (disch := first | omega | simp (decide := true) only [bdset_a, brow_len, brow_flat, trow_len, trow_flat, trows_flat, trows_length, frow_len]) only [brun_a, ↓brun_b, envOf, reduceIte, Nat.reduceEqDiff, Nat.reduceAdd, Nat.reduceSub, Nat.reduceMul, Nat.reduceBEq, Nat.reduceLeDiff, Nat.reduceLT, beq_self_eq_true, cond_true, cond_false, Int.reduceToNat, tab.u3, tab.s3, tab.a3, tab.u5, tab.s5, tab.a5, tab.u9, tab.s9, tab.a9, tab.u35, tab.s35, tab.a35, tab.u44, tab.s44, tab.a44, cellAt_zero, cellAt_succ, splice, List.take_succ_cons, List.take_zero, List.drop_succ_cons, List.drop_zero, List.drop_nil, brow_len, brow_cell, trow_len, trow_cell, frow_len, frow_cell, hw, hFbk]
      refine ⟨⟨k + 1, by omega⟩, List.range (n + 2), ?_, by show n - (k + 1) < n - k; omega⟩
      refine Wk.fewer ?_ ?_ ?_
      · simp [hFl]
      · simp [hFl]
      · simp only [List.mem_cons, List.not_mem_nil, or_false]
        rintro p (rfl | rfl | rfl) <;> rfl
    · simp -dsimp (decide := true) (maxSteps := 1000000) (disch := first | omega | simp (decide := true) only [bdset_a, brow_len, brow_flat, trow_len, trow_flat, trows_flat, trows_length, frow_len]) only [brun_a, ↓brun_b, envOf, reduceIte, Nat.reduceEqDiff, Nat.reduceAdd, Nat.reduceSub, Nat.reduceMul, Nat.reduceBEq, Nat.reduceLeDiff, Nat.reduceLT, beq_self_eq_true, cond_true, cond_false, Int.reduceToNat, tab.u3, tab.s3, tab.a3, tab.u5, tab.s5, tab.a5, tab.u9, tab.s9, tab.a9, tab.u35, tab.s35, tab.a35, tab.u44, tab.s44, tab.a44, cellAt_zero, cellAt_succ, splice, List.take_succ_cons, List.take_zero, List.drop_succ_cons, List.drop_zero, List.drop_nil, brow_len, brow_cell, trow_len, trow_cell, frow_len, frow_cell]
      refine SQ.run (rs := [.tmp 4]) rfl (by show n + 1 + 1 = 2 + n; omega) (fun _ => rfl) ?_
      simp -dsimp (decide := true) (maxSteps := 1000000) (disch := first | omega | simp (decide := true) only [bdset_a, brow_len, brow_flat, trow_len, trow_flat, trows_flat, trows_length, frow_len]) only [brun_a, ↓brun_b, envOf, reduceIte, Nat.reduceEqDiff, Nat.reduceAdd, Nat.reduceSub, Nat.reduceMul, Nat.reduceBEq, Nat.reduceLeDiff, Nat.reduceLT, beq_self_eq_true, cond_true, cond_false, Int.reduceToNat, tab.u3, tab.s3, tab.a3, tab.u5, tab.s5, tab.a5, tab.u9, tab.s9, tab.a9, tab.u35, tab.s35, tab.a35, tab.u44, tab.s44, tab.a44, cellAt_zero, cellAt_succ, splice, List.take_succ_cons, List.take_zero, List.drop_succ_cons, List.drop_zero, List.drop_nil, brow_len, brow_cell, trow_len, trow_cell, frow_len, frow_cell]
end Go.Proofs
