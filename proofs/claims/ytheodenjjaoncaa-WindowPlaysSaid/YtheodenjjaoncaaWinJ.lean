/- A window's Waits, whose copies are owned. -/
import Derived.Test.YtheodenjjaoncaaWinI
import Derived.Test.YtheodenjjaoncaaSlV
set_option linter.unusedVariables false
set_option linter.unusedSimpArgs false
namespace Go.SL
open Go
/-- Owned texts, one block each. -/
def famL (ts : List (List UInt8)) : List (Option SK) := ts.map fun t => some (.row ⟨1, t.length, true, 5, brow t⟩)
theorem famL_len (ts : List (List UInt8)) : (famL ts).length = ts.length := by simp [famL]
theorem famL_at (ts : List (List UInt8)) (k : Nat) (h : k < ts.length) : (famL ts)[k]? = some (some (.row ⟨1, (ts.getD k []).length, true, 5, brow (ts.getD k [])⟩)) := by
  simp [famL, List.getElem?_eq_getElem h]
theorem famL_snoc (ts : List (List UInt8)) (k : Nat) (h : k < ts.length) : famL (ts.take (k + 1)) = famL (ts.take k) ++ [some (.row ⟨1, (ts.getD k []).length, true, 5, brow (ts.getD k [])⟩)] := by
  have e : ts.getD k [] = ts[k] := by rw [List.getD_eq_getElem?_getD, List.getElem?_eq_getElem h, Option.getD_some]
  rw [famL, List.take_add_one, List.getElem?_eq_getElem h, List.map_append, e]
  rfl
theorem famL_ent {fz : Nat → Option SB} {ρ : Nat → Nat} {ts : List (List UInt8)} {i : Nat} {K : SK} (h : (famL ts)[i]? = some (some K)) : EntK fz ρ K K := by
  rw [famL, List.getElem?_map] at h
  cases ht : ts[i]? with
  | none => rw [ht] at h; cases h
  | some t =>
    rw [ht] at h
    have h : some (SK.row ⟨1, t.length, true, 5, brow t⟩) = some K := by simpa using h
    cases h
    exact EntK_flat fun e => brow_flat t e
/-- The slices that name them: from block c on. -/
def frow (c : Nat) (ts : List (List UInt8)) (e : Nat) : List SV := [.slc (c + e) 0 (ts.getD e []).length]
theorem frow_len (c : Nat) (ts : List (List UInt8)) (k : Nat) : (frow c ts k).length = 1 := Eq.trans rfl rfl
end Go.SL
namespace Go.Proofs
open Go Go.SL
set_option maxRecDepth 100000
theorem waitsO_calls (base got : Int) (ts : List (List UInt8)) (h1 : ts.length * 24 ≤ 140737488355328) (h2 : ∀ t ∈ ts, t.length ≤ 140737488355328) :
    SCall Try.prog 56 [.ptr 0 0 0] [some (.row ⟨3, 1, false, 197, fun _ => [.v (.int .i64 base), .slc 1 0 ts.length, .v (.int .i64 got)]⟩), some (.row ⟨1, ts.length, false, 35, trow ts⟩)]
      fun r L => r = .ret (.tup [.v (.int .i64 base), .slc 2 0 ts.length]) ∧ L = none :: none :: some (.row ⟨1, ts.length, true, 35, frow 3 ts⟩) :: famL ts := by
  refine SCall.mk (fn := Try.f56) (by kernel_rfl) rfl (Nat.le_of_ble_eq_true (by kernel_rfl)) ?_
  refine Sem.go (k := 1000) ?_
  simp -dsimp (decide := true) (maxSteps := 1000000) (disch := first | omega | simp (decide := true) only [bdset_a, brow_len, brow_flat, trow_len, trow_flat, trows_flat, trows_length, frow_len]) only [brun_a, ↓brun_b, envOf, reduceIte, Nat.reduceEqDiff, Nat.reduceAdd, Nat.reduceSub, Nat.reduceMul, Nat.reduceBEq, Nat.reduceLeDiff, Nat.reduceLT, beq_self_eq_true, cond_true, cond_false, Int.reduceToNat, tab.u2, tab.s2, tab.a2, tab.u3, tab.s3, tab.a3, tab.u5, tab.s5, tab.a5, tab.u35, tab.s35, tab.a35, tab.u44, tab.s44, tab.a44, tab.u50, tab.s50, tab.a50, tab.u197, tab.s197, tab.a197, tab.f197x0, tab.f197x1, tab.f197x2, cellAt_zero, cellAt_succ, splice, List.take_succ_cons, List.take_zero, List.drop_succ_cons, List.drop_zero, List.drop_nil, brow_len, brow_cell, trow_len, trow_cell]
  refine Sem.ghost 4 1 35 rfl ?_
  refine Sem.loop (ι := {k : Nat // k ≤ ts.length}) (fun k => ⟨30, 2, [(0, .ptr 0 0 0), (12, .slc 1 0 ts.length), (13, .v (.int .i64 (ts.length : Int))), (14, .v (.int .i64 (k.1 : Int))), (4, .slc 2 0 k.1)], some (.row ⟨3, 1, false, 197, fun _ => [.v (.int .i64 base), .slc 1 0 ts.length, .v (.int .i64 got)]⟩) :: some (.row ⟨1, ts.length, false, 35, trow ts⟩) :: some (.row ⟨1, k.1, true, 35, frow 3 (ts.take k.1)⟩) :: famL (ts.take k.1)⟩) (fun k => ts.length - k.1) ⟨0, by omega⟩ [0, 1, 2] ?_ ?_
  · (refine Wk.ofC ?_; simp -dsimp (decide := true) (maxSteps := 1000000) (disch := first | omega | simp (decide := true) only [bdset_a, brow_len, brow_flat, trow_len, trow_flat, trows_flat, trows_length, frow_len]) only [brun_a, ↓brun_b, envOf, reduceIte, Nat.reduceEqDiff, Nat.reduceAdd, Nat.reduceSub, Nat.reduceMul, Nat.reduceBEq, Nat.reduceLeDiff, Nat.reduceLT, beq_self_eq_true, cond_true, cond_false, Int.reduceToNat, tab.u2, tab.s2, tab.a2, tab.u3, tab.s3, tab.a3, tab.u5, tab.s5, tab.a5, tab.u35, tab.s35, tab.a35, tab.u44, tab.s44, tab.a44, tab.u50, tab.s50, tab.a50, tab.u197, tab.s197, tab.a197, tab.f197x0, tab.f197x1, tab.f197x2, cellAt_zero, cellAt_succ, splice, List.take_succ_cons, List.take_zero, List.drop_succ_cons, List.drop_zero, List.drop_nil, brow_len, brow_cell, trow_len, trow_cell, List.take_zero, famL, List.map_nil, bwk_a, frz1, eq_self, implies_true, rho, ↓reduceIte, forall_const])
  · rintro ⟨k, hk⟩
    refine Sem.go (k := 1000) ?_
    simp -dsimp (decide := true) (maxSteps := 1000000) (disch := first | omega | simp (decide := true) only [bdset_a, brow_len, brow_flat, trow_len, trow_flat, trows_flat, trows_length, frow_len]) only [brun_a, ↓brun_b, envOf, reduceIte, Nat.reduceEqDiff, Nat.reduceAdd, Nat.reduceSub, Nat.reduceMul, Nat.reduceBEq, Nat.reduceLeDiff, Nat.reduceLT, beq_self_eq_true, cond_true, cond_false, Int.reduceToNat, tab.u2, tab.s2, tab.a2, tab.u3, tab.s3, tab.a3, tab.u5, tab.s5, tab.a5, tab.u35, tab.s35, tab.a35, tab.u44, tab.s44, tab.a44, tab.u50, tab.s50, tab.a50, tab.u197, tab.s197, tab.a197, tab.f197x0, tab.f197x1, tab.f197x2, cellAt_zero, cellAt_succ, splice, List.take_succ_cons, List.take_zero, List.drop_succ_cons, List.drop_zero, List.drop_nil, brow_len, brow_cell, trow_len, trow_cell]
    refine SCond.split (fun h => ?_) (fun h => ?_)
    · simp only [decide_eq_true_eq] at h
      have hk' : k < ts.length := by omega
      have hw : IntKind.i64.wrap ((k : Int) + 1) = ((k + 1 : Nat) : Int) := by rw [wrap_i64 _ (by omega)]; rfl
      have htl : (ts.getD k []).length ≤ 140737488355328 := h2 _ (by rw [List.getD_eq_getElem?_getD, List.getElem?_eq_getElem hk', Option.getD_some]; exact List.getElem_mem hk')
      have hFl : (famL (ts.take k)).length = k := by rw [famL_len, List.length_take]; omega
      have hFs := famL_snoc ts k hk'
      generalize hF : famL (ts.take k) = F at *
      simp -dsimp (decide := true) (maxSteps := 1000000) (disch := first | omega | simp (decide := true) only [bdset_a, brow_len, brow_flat, trow_len, trow_flat, trows_flat, trows_length, frow_len]) only [brun_a, ↓brun_b, envOf, reduceIte, Nat.reduceEqDiff, Nat.reduceAdd, Nat.reduceSub, Nat.reduceMul, Nat.reduceBEq, Nat.reduceLeDiff, Nat.reduceLT, beq_self_eq_true, cond_true, cond_false, Int.reduceToNat, tab.u2, tab.s2, tab.a2, tab.u3, tab.s3, tab.a3, tab.u5, tab.s5, tab.a5, tab.u35, tab.s35, tab.a35, tab.u44, tab.s44, tab.a44, tab.u50, tab.s50, tab.a50, tab.u197, tab.s197, tab.a197, tab.f197x0, tab.f197x1, tab.f197x2, cellAt_zero, cellAt_succ, splice, List.take_succ_cons, List.take_zero, List.drop_succ_cons, List.drop_zero, List.drop_nil, brow_len, brow_cell, trow_len, trow_cell, hw, bs35_0, bs44s, sapp1_sl el5, sapp1_sl el35, getL_app0, getL_app, set_app0, set_app, List.length_append, List.append_assoc]
      refine And.intro (by omega) (And.intro hk' (And.intro htl (And.intro (by omega) ⟨⟨k + 1, by omega⟩, 0 :: 1 :: (F.length + 6) :: (List.range' 3 F.length ++ [F.length + 4]), ?_, by show ts.length - (k + 1) < ts.length - k; omega⟩)))
      have hl1 : ∀ e, e < k → (0 :: 1 :: (F.length + 6) :: (List.range' 3 F.length ++ [F.length + 4]))[3 + e]? = some (3 + e) := by
        intro e he
        rw [Nat.add_comm 3 e]
        show (List.range' 3 F.length ++ [F.length + 4])[e]? = _
        rw [List.getElem?_append_left (by simp; omega), List.getElem?_range' (by omega)]
        simp
        omega
      have hl2 : (0 :: 1 :: (F.length + 6) :: (List.range' 3 F.length ++ [F.length + 4]))[3 + k]? = some (F.length + 4) := by
        rw [Nat.add_comm 3 k]
        show (List.range' 3 F.length ++ [F.length + 4])[k]? = _
        rw [List.getElem?_append_right (by simp; omega)]
        simp [hFl]
      refine ⟨rfl, rfl, Nat.le_of_ble_eq_true rfl, ?_, rfl, ?_, ?_⟩
      · simp only [List.nodup_cons, List.nodup_append, List.nodup_range', List.mem_range', List.mem_cons, List.mem_append, List.not_mem_nil, List.nodup_nil]
        refine ⟨?_, ?_, ?_, ?_⟩
        · rintro (h | h | ⟨j, h, h2⟩ | h | h) <;> (try omega) <;> (try exact h.elim)
        · rintro (h | ⟨j, h, h2⟩ | h | h) <;> (try omega) <;> (try exact h.elim)
        · rintro (⟨j, h, h2⟩ | h | h) <;> (try omega) <;> (try exact h.elim)
        · refine ⟨by simp [List.nodup_range'], ⟨fun h => h, trivial⟩, ?_⟩
          rintro a ⟨j, h, h2⟩ b (rfl | h3)
          · omega
          · exact h3.elim
      · simp -dsimp (decide := true) (maxSteps := 1000000) (disch := first | omega | simp (decide := true) only [bdset_a, brow_len, brow_flat, trow_len, trow_flat, trows_flat, trows_length, frow_len]) only [brun_a, ↓brun_b, envOf, reduceIte, Nat.reduceEqDiff, Nat.reduceAdd, Nat.reduceSub, Nat.reduceMul, Nat.reduceBEq, Nat.reduceLeDiff, Nat.reduceLT, beq_self_eq_true, cond_true, cond_false, Int.reduceToNat, tab.u2, tab.s2, tab.a2, tab.u3, tab.s3, tab.a3, tab.u5, tab.s5, tab.a5, tab.u35, tab.s35, tab.a35, tab.u44, tab.s44, tab.a44, tab.u50, tab.s50, tab.a50, tab.u197, tab.s197, tab.a197, tab.f197x0, tab.f197x1, tab.f197x2, cellAt_zero, cellAt_succ, splice, List.take_succ_cons, List.take_zero, List.drop_succ_cons, List.drop_zero, List.drop_nil, brow_len, brow_cell, trow_len, trow_cell, bwk_a, frz1, eq_self, implies_true, rho, ↓reduceIte, forall_const]
      · rw [hFs, wkL_csome, wkL_csome, wkL_csome]
        refine And.intro ?_ (And.intro ?_ (And.intro ?_ (wkL_fam F 3 _ _ ?_ ?_)))
        · simp -dsimp (decide := true) (maxSteps := 1000000) (disch := first | omega | simp (decide := true) only [bdset_a, brow_len, brow_flat, trow_len, trow_flat, trows_flat, trows_length, frow_len]) only [brun_a, ↓brun_b, envOf, reduceIte, Nat.reduceEqDiff, Nat.reduceAdd, Nat.reduceSub, Nat.reduceMul, Nat.reduceBEq, Nat.reduceLeDiff, Nat.reduceLT, beq_self_eq_true, cond_true, cond_false, Int.reduceToNat, tab.u2, tab.s2, tab.a2, tab.u3, tab.s3, tab.a3, tab.u5, tab.s5, tab.a5, tab.u35, tab.s35, tab.a35, tab.u44, tab.s44, tab.a44, tab.u50, tab.s50, tab.a50, tab.u197, tab.s197, tab.a197, tab.f197x0, tab.f197x1, tab.f197x2, cellAt_zero, cellAt_succ, splice, List.take_succ_cons, List.take_zero, List.drop_succ_cons, List.drop_zero, List.drop_nil, brow_len, brow_cell, trow_len, trow_cell, bwk_a, frz1, eq_self, implies_true, rho, ↓reduceIte, forall_const]
        · simp -dsimp (decide := true) (maxSteps := 1000000) (disch := first | omega | simp (decide := true) only [bdset_a, brow_len, brow_flat, trow_len, trow_flat, trows_flat, trows_length, frow_len]) only [brun_a, ↓brun_b, envOf, reduceIte, Nat.reduceEqDiff, Nat.reduceAdd, Nat.reduceSub, Nat.reduceMul, Nat.reduceBEq, Nat.reduceLeDiff, Nat.reduceLT, beq_self_eq_true, cond_true, cond_false, Int.reduceToNat, tab.u2, tab.s2, tab.a2, tab.u3, tab.s3, tab.a3, tab.u5, tab.s5, tab.a5, tab.u35, tab.s35, tab.a35, tab.u44, tab.s44, tab.a44, tab.u50, tab.s50, tab.a50, tab.u197, tab.s197, tab.a197, tab.f197x0, tab.f197x1, tab.f197x2, cellAt_zero, cellAt_succ, splice, List.take_succ_cons, List.take_zero, List.drop_succ_cons, List.drop_zero, List.drop_nil, brow_len, brow_cell, trow_len, trow_cell, bwk_a, frz1, eq_self, implies_true, rho, ↓reduceIte, forall_const]
        · have hg : ∀ (a b c w x y z : Option SK), getL (a :: b :: c :: (F ++ [w, x, y, z])) (F.length + 6) = z := by
            intro a b c w x y z
            show getL (F ++ [w, x, y, z]) (F.length + 3) = _
            rw [getL_app]
            rfl
          rw [hg]
          refine ⟨rfl, rfl, rfl, id, fun e he => ?_⟩
          have he : e < k + 1 := he
          by_cases hek : e < k
          · have e1 : (ts.take (k + 1)).getD e [] = ts.getD e [] := by simp [List.getD_eq_getElem?_getD, List.getElem?_take, show e < k + 1 by omega]
            have e2 : (ts.take k).getD e [] = ts.getD e [] := by simp [List.getD_eq_getElem?_getD, List.getElem?_take, hek]
            dsimp only
            rw [if_pos hek, frow, frow, e1, e2]
            refine ⟨_, _, rfl, ?_, rfl⟩
            rw [Ent_slc, rho_at (hl1 e hek)]
            exact ⟨rfl, rfl, rfl⟩
          · obtain rfl : e = k := by omega
            have e1 : (ts.take (e + 1)).getD e [] = ts.getD e [] := by simp [List.getD_eq_getElem?_getD, List.getElem?_take]
            dsimp only
            rw [if_neg hek, Nat.sub_self, frow, e1]
            refine ⟨_, _, rfl, ?_, rfl⟩
            rw [Ent_slc, rho_at hl2]
            exact ⟨rfl, rfl, rfl⟩
        · intro i K hi
          have hlt : i < F.length := by
            rcases Nat.lt_or_ge i F.length with h | h
            · exact h
            · rw [List.getElem?_eq_none h] at hi; cases hi
          refine And.intro ?_ ?_
          · rw [Nat.add_comm 3 i]
            show getL (F ++ _) i = _
            rw [getL_left _ _ _ hlt, getL_some]
            exact hi
          · rw [← hF] at hi
            exact famL_ent hi
        · rw [wkL_csome, wkL_nil]
          refine And.intro ?_ trivial
          have hg : ∀ (a b c w x y z : Option SK), getL (a :: b :: c :: (F ++ [w, x, y, z])) (F.length + 4) = x := by
            intro a b c w x y z
            show getL (F ++ [w, x, y, z]) (F.length + 1) = _
            rw [getL_app]
            rfl
          rw [hg]
          refine ⟨rfl, rfl, rfl, id, fun e he => ?_⟩
          have := copy_el (ts.getD k []) e he
          dsimp only
          rw [this]
          exact EntL.self (brow_flat _ _)
    · simp only [decide_eq_false_iff_not] at h
      obtain rfl : k = ts.length := by omega
      simp -dsimp (decide := true) (maxSteps := 1000000) (disch := first | omega | simp (decide := true) only [bdset_a, brow_len, brow_flat, trow_len, trow_flat, trows_flat, trows_length, frow_len]) only [brun_a, ↓brun_b, envOf, reduceIte, Nat.reduceEqDiff, Nat.reduceAdd, Nat.reduceSub, Nat.reduceMul, Nat.reduceBEq, Nat.reduceLeDiff, Nat.reduceLT, beq_self_eq_true, cond_true, cond_false, Int.reduceToNat, tab.u2, tab.s2, tab.a2, tab.u3, tab.s3, tab.a3, tab.u5, tab.s5, tab.a5, tab.u35, tab.s35, tab.a35, tab.u44, tab.s44, tab.a44, tab.u50, tab.s50, tab.a50, tab.u197, tab.s197, tab.a197, tab.f197x0, tab.f197x1, tab.f197x2, cellAt_zero, cellAt_succ, splice, List.take_succ_cons, List.take_zero, List.drop_succ_cons, List.drop_zero, List.drop_nil, brow_len, brow_cell, trow_len, trow_cell, List.take_length]
      refine SQ.runL (rs := [.tmp 2, .tmp 3]) (0 :: 1 :: 2 :: List.range' 3 (famL ts).length) _ _ rfl (And.intro rfl rfl) ?_ rfl rfl ?_ ?_
      · simp [List.nodup_cons, List.nodup_range', List.mem_range']
        exact ⟨fun _ _ => by omega, fun _ _ => by omega, fun _ _ => by omega⟩
      · rw [wkL_cnone, wkL_cnone, wkL_csome]
        refine And.intro ?_ (wkL_fam0 (famL ts) 3 ?_)
        · refine ⟨rfl, rfl, rfl, id, fun e he => ?_⟩
          refine ⟨_, _, rfl, ?_, rfl⟩
          rw [Ent_slc, rho_at (j := 3 + e)]
          · exact ⟨rfl, rfl, rfl⟩
          · have he : e < ts.length := he
            rw [Nat.add_comm 3 e]
            show (List.range' 3 (famL ts).length)[e]? = _
            rw [List.getElem?_range' (by rw [famL_len]; omega)]
            simp
            omega
        · intro i K hi
          refine And.intro ?_ (famL_ent hi)
          rw [Nat.add_comm 3 i]
          show getL (famL ts) i = _
          rw [getL_some]
          exact hi
      · simp -dsimp (decide := true) (maxSteps := 1000000) (disch := first | omega | simp (decide := true) only [bdset_a, brow_len, brow_flat, trow_len, trow_flat, trows_flat, trows_length, frow_len]) only [brun_a, ↓brun_b, envOf, reduceIte, Nat.reduceEqDiff, Nat.reduceAdd, Nat.reduceSub, Nat.reduceMul, Nat.reduceBEq, Nat.reduceLeDiff, Nat.reduceLT, beq_self_eq_true, cond_true, cond_false, Int.reduceToNat, tab.u2, tab.s2, tab.a2, tab.u3, tab.s3, tab.a3, tab.u5, tab.s5, tab.a5, tab.u35, tab.s35, tab.a35, tab.u44, tab.s44, tab.a44, tab.u50, tab.s50, tab.a50, tab.u197, tab.s197, tab.a197, tab.f197x0, tab.f197x1, tab.f197x2, cellAt_zero, cellAt_succ, splice, List.take_succ_cons, List.take_zero, List.drop_succ_cons, List.drop_zero, List.drop_nil, brow_len, brow_cell, trow_len, trow_cell, bwk_a, frz1, eq_self, implies_true, rho, ↓reduceIte, forall_const]
end Go.Proofs
