/- Notes: rep.Put and rep.Forget, which answer slices of their own. -/
import Derived.Test.YtheodenjjaoncaaRepL
import Derived.Test.YtheodenjjaoncaaSlT
set_option linter.unusedVariables false
set_option linter.unusedSimpArgs false
namespace Go.Proofs
open Go Go.SL
set_option maxRecDepth 100000
def notePut (hs : List Hd) (h : Hd) : List Hd := hs.filter (fun x => decide (x.n < h.n)) ++ h :: hs.filter (fun x => decide (h.n < x.n))
def noteDrop (hs : List Hd) (n : Int) : List Hd := hs.filter fun x => !decide (x.n = n)
def hrow (hs : List Hd) (e : Nat) : List SV := (hs.getD e Hd.zero).c
theorem hrow_flat (hs : List Hd) (e : Nat) : SV.flatL (hrow hs e) = true := Hd.flat _
theorem hrow_len (hs : List Hd) (e : Nat) : (hrow hs e).length = 18 := Hd.c_length _
theorem filter_take (p : Hd → Bool) (hs : List Hd) (k : Nat) (h : k < hs.length) : (hs.take (k + 1)).filter p = (hs.take k).filter p ++ if p (hs.getD k Hd.zero) then [hs.getD k Hd.zero] else [] := by
  rw [List.take_add_one, List.getElem?_eq_getElem h, Option.toList_some, List.filter_append, List.getD_eq_getElem?_getD, List.getElem?_eq_getElem h]
  simp [List.filter_cons]
theorem ent_hrow_app {fz : Nat → Option SB} {ρ : Nat → Nat} (l : List Hd) (x : Hd) {n e : Nat} (hn : l.length = n) (he : e < n + 1) : EntL fz ρ (hrow (l ++ [x]) e) (if e < n then hrow l e else (x.c.drop ((e - n) * 18)).take 18) := by
  have : (if e < n then hrow l e else (x.c.drop ((e - n) * 18)).take 18) = hrow (l ++ [x]) e := by
    split
    · rename_i h
      simp [hrow, List.getD_eq_getElem?_getD, List.getElem?_append_left (show e < l.length by omega)]
    · rename_i h
      obtain rfl : e = n := by omega
      rw [Nat.sub_self, take18]
      simp [hrow, List.getD_eq_getElem?_getD, List.getElem?_append_right (show l.length ≤ e by omega), hn]
  rw [this]
  exact EntL.self (hrow_flat _ _)
theorem forget_calls (hs : List Hd) (n : Int) (hb : hs.length * 32 ≤ 140737488355328) : Owns Try.prog 62 [.rsl 18 (hrows hs), .v (.int .i64 n)] 18 (noteDrop hs n).length 26 (hrow (noteDrop hs n)) := by
  refine SCall.mk (fn := Try.f62) (by kernel_rfl) rfl (Nat.le_of_ble_eq_true (by kernel_rfl)) ?_
  refine Sem.go (k := 1000) ?_
  simp -dsimp (decide := true) (maxSteps := 1000000) (disch := first | omega | simp (decide := true) only [bdset_a, Hd.one, Hd.c_length, I16.c_length, I16.one, I16.flat, Hd.flat, hrows.flat, hrows_length, hrow_flat, hrow_len]) only [brun_a, ↓brun_b, envOf, reduceIte, Nat.reduceEqDiff, Nat.reduceAdd, Nat.reduceSub, Nat.reduceMul, Nat.reduceBEq, Nat.reduceLeDiff, Nat.reduceLT, beq_self_eq_true, cond_true, cond_false, Int.reduceToNat, tab.u2, tab.s2, tab.a2, tab.u3, tab.s3, tab.a3, tab.u5, tab.s5, tab.a5, tab.u23, tab.s23, tab.a23, tab.u24, tab.s24, tab.a24, tab.u26, tab.s26, tab.a26, tab.f26x0, tab.f26x1, tab.f26x2, I16.part, Hd.part_id, Hd.part_n, Hd.part_far, Hd.part, Hd.c_length, I16.c_length, hrows_length, hrows_getD]
  refine Sem.ghost 5 18 26 rfl ?_
  refine Sem.loop (ι := {k : Nat // k ≤ hs.length}) (fun k => ⟨24, 0, [(1, .v (.int .i64 n)), (8, .rsl 18 (hrows hs)), (9, .v (.int .i64 (hs.length : Int))), (10, .v (.int .i64 (k.1 : Int))), (5, .slc 0 0 (noteDrop (hs.take k.1) n).length)], [some (.row ⟨18, (noteDrop (hs.take k.1) n).length, true, 26, hrow (noteDrop (hs.take k.1) n)⟩)]⟩) (fun k => hs.length - k.1) ⟨0, by omega⟩ [0] ?_ ?_
  · (refine Wk.ofC ?_; simp -dsimp (decide := true) (maxSteps := 1000000) (disch := first | omega | simp (decide := true) only [bdset_a, Hd.one, Hd.c_length, I16.c_length, I16.one, I16.flat, Hd.flat, hrows.flat, hrows_length, hrow_flat, hrow_len]) only [brun_a, ↓brun_b, envOf, reduceIte, Nat.reduceEqDiff, Nat.reduceAdd, Nat.reduceSub, Nat.reduceMul, Nat.reduceBEq, Nat.reduceLeDiff, Nat.reduceLT, beq_self_eq_true, cond_true, cond_false, Int.reduceToNat, tab.u2, tab.s2, tab.a2, tab.u3, tab.s3, tab.a3, tab.u5, tab.s5, tab.a5, tab.u23, tab.s23, tab.a23, tab.u24, tab.s24, tab.a24, tab.u26, tab.s26, tab.a26, tab.f26x0, tab.f26x1, tab.f26x2, I16.part, Hd.part_id, Hd.part_n, Hd.part_far, Hd.part, Hd.c_length, I16.c_length, hrows_length, hrows_getD, List.take_zero, noteDrop, List.filter_nil, bwk_a, frz1, eq_self, implies_true, rho, ↓reduceIte, forall_const])
  · rintro ⟨k, hk⟩
    refine Sem.go (k := 1000) ?_
    simp -dsimp (decide := true) (maxSteps := 1000000) (disch := first | omega | simp (decide := true) only [bdset_a, Hd.one, Hd.c_length, I16.c_length, I16.one, I16.flat, Hd.flat, hrows.flat, hrows_length, hrow_flat, hrow_len]) only [brun_a, ↓brun_b, envOf, reduceIte, Nat.reduceEqDiff, Nat.reduceAdd, Nat.reduceSub, Nat.reduceMul, Nat.reduceBEq, Nat.reduceLeDiff, Nat.reduceLT, beq_self_eq_true, cond_true, cond_false, Int.reduceToNat, tab.u2, tab.s2, tab.a2, tab.u3, tab.s3, tab.a3, tab.u5, tab.s5, tab.a5, tab.u23, tab.s23, tab.a23, tab.u24, tab.s24, tab.a24, tab.u26, tab.s26, tab.a26, tab.f26x0, tab.f26x1, tab.f26x2, I16.part, Hd.part_id, Hd.part_n, Hd.part_far, Hd.part, Hd.c_length, I16.c_length, hrows_length, hrows_getD]
    refine SCond.split (fun h => ?_) (fun h => ?_)
    · simp only [decide_eq_true_eq] at h
      have hk' : k < hs.length := by omega
      have hw : IntKind.i64.wrap ((k : Int) + 1) = ((k + 1 : Nat) : Int) := by rw [wrap_i64 _ (by omega)]; rfl
      have hft := filter_take (fun x => !decide (x.n = n)) hs k hk'
      have hlen : (noteDrop (hs.take k) n).length ≤ k := by
        have := List.length_filter_le (fun x : Hd => !decide (x.n = n)) (hs.take k)
        rw [List.length_take] at this
        unfold noteDrop
        omega
      rw [← noteDrop, ← noteDrop] at hft
      simp -dsimp (decide := true) (maxSteps := 1000000) (disch := first | omega | simp (decide := true) only [bdset_a, Hd.one, Hd.c_length, I16.c_length, I16.one, I16.flat, Hd.flat, hrows.flat, hrows_length, hrow_flat, hrow_len]) only [brun_a, ↓brun_b, envOf, reduceIte, Nat.reduceEqDiff, Nat.reduceAdd, Nat.reduceSub, Nat.reduceMul, Nat.reduceBEq, Nat.reduceLeDiff, Nat.reduceLT, beq_self_eq_true, cond_true, cond_false, Int.reduceToNat, tab.u2, tab.s2, tab.a2, tab.u3, tab.s3, tab.a3, tab.u5, tab.s5, tab.a5, tab.u23, tab.s23, tab.a23, tab.u24, tab.s24, tab.a24, tab.u26, tab.s26, tab.a26, tab.f26x0, tab.f26x1, tab.f26x2, I16.part, Hd.part_id, Hd.part_n, Hd.part_far, Hd.part, Hd.c_length, I16.c_length, hrows_length, hrows_getD, alloc26, splice_all]
      generalize hs.getD k Hd.zero = x at *
      generalize noteDrop (hs.take k) n = l at *
      refine And.intro (by omega) ?_
      refine SCond.split (fun h1 => ?_) (fun h1 => ?_)
      · rw [if_pos h1] at hft
        simp -dsimp (decide := true) (maxSteps := 1000000) (disch := first | omega | simp (decide := true) only [bdset_a, Hd.one, Hd.c_length, I16.c_length, I16.one, I16.flat, Hd.flat, hrows.flat, hrows_length, hrow_flat, hrow_len]) only [brun_a, ↓brun_b, envOf, reduceIte, Nat.reduceEqDiff, Nat.reduceAdd, Nat.reduceSub, Nat.reduceMul, Nat.reduceBEq, Nat.reduceLeDiff, Nat.reduceLT, beq_self_eq_true, cond_true, cond_false, Int.reduceToNat, tab.u2, tab.s2, tab.a2, tab.u3, tab.s3, tab.a3, tab.u5, tab.s5, tab.a5, tab.u23, tab.s23, tab.a23, tab.u24, tab.s24, tab.a24, tab.u26, tab.s26, tab.a26, tab.f26x0, tab.f26x1, tab.f26x2, I16.part, Hd.part_id, Hd.part_n, Hd.part_far, Hd.part, Hd.c_length, I16.c_length, hrows_length, hrows_getD, hw, bs24, sapp1_sl el26]
        refine And.intro (by omega) ⟨⟨k + 1, by omega⟩, [3], ?_, by show hs.length - (k + 1) < hs.length - k; omega⟩
        have hl2 : (l ++ [x]).length = l.length + 1 := by simp
        (refine Wk.ofC ?_; simp -dsimp (decide := true) (maxSteps := 1000000) (disch := first | omega | simp (decide := true) only [bdset_a, Hd.one, Hd.c_length, I16.c_length, I16.one, I16.flat, Hd.flat, hrows.flat, hrows_length, hrow_flat, hrow_len]) only [brun_a, ↓brun_b, envOf, reduceIte, Nat.reduceEqDiff, Nat.reduceAdd, Nat.reduceSub, Nat.reduceMul, Nat.reduceBEq, Nat.reduceLeDiff, Nat.reduceLT, beq_self_eq_true, cond_true, cond_false, Int.reduceToNat, tab.u2, tab.s2, tab.a2, tab.u3, tab.s3, tab.a3, tab.u5, tab.s5, tab.a5, tab.u23, tab.s23, tab.a23, tab.u24, tab.s24, tab.a24, tab.u26, tab.s26, tab.a26, tab.f26x0, tab.f26x1, tab.f26x2, I16.part, Hd.part_id, Hd.part_n, Hd.part_far, Hd.part, Hd.c_length, I16.c_length, hrows_length, hrows_getD, hft, hl2, bwk_a, frz1, eq_self, implies_true, rho, ↓reduceIte, forall_const])
        exact fun e he => ent_hrow_app l x rfl he
      · rw [if_neg (by rw [h1]; decide), List.append_nil] at hft
        simp -dsimp (decide := true) (maxSteps := 1000000) (disch := first | omega | simp (decide := true) only [bdset_a, Hd.one, Hd.c_length, I16.c_length, I16.one, I16.flat, Hd.flat, hrows.flat, hrows_length, hrow_flat, hrow_len]) only [brun_a, ↓brun_b, envOf, reduceIte, Nat.reduceEqDiff, Nat.reduceAdd, Nat.reduceSub, Nat.reduceMul, Nat.reduceBEq, Nat.reduceLeDiff, Nat.reduceLT, beq_self_eq_true, cond_true, cond_false, Int.reduceToNat, tab.u2, tab.s2, tab.a2, tab.u3, tab.s3, tab.a3, tab.u5, tab.s5, tab.a5, tab.u23, tab.s23, tab.a23, tab.u24, tab.s24, tab.a24, tab.u26, tab.s26, tab.a26, tab.f26x0, tab.f26x1, tab.f26x2, I16.part, Hd.part_id, Hd.part_n, Hd.part_far, Hd.part, Hd.c_length, I16.c_length, hrows_length, hrows_getD, hw]
        refine ⟨⟨k + 1, by omega⟩, [0], ?_, by show hs.length - (k + 1) < hs.length - k; omega⟩
        (refine Wk.ofC ?_; simp -dsimp (decide := true) (maxSteps := 1000000) (disch := first | omega | simp (decide := true) only [bdset_a, Hd.one, Hd.c_length, I16.c_length, I16.one, I16.flat, Hd.flat, hrows.flat, hrows_length, hrow_flat, hrow_len]) only [brun_a, ↓brun_b, envOf, reduceIte, Nat.reduceEqDiff, Nat.reduceAdd, Nat.reduceSub, Nat.reduceMul, Nat.reduceBEq, Nat.reduceLeDiff, Nat.reduceLT, beq_self_eq_true, cond_true, cond_false, Int.reduceToNat, tab.u2, tab.s2, tab.a2, tab.u3, tab.s3, tab.a3, tab.u5, tab.s5, tab.a5, tab.u23, tab.s23, tab.a23, tab.u24, tab.s24, tab.a24, tab.u26, tab.s26, tab.a26, tab.f26x0, tab.f26x1, tab.f26x2, I16.part, Hd.part_id, Hd.part_n, Hd.part_far, Hd.part, Hd.c_length, I16.c_length, hrows_length, hrows_getD, hft, bwk_a, frz1, eq_self, implies_true, rho, ↓reduceIte, forall_const])
    · simp only [decide_eq_false_iff_not] at h
      obtain rfl : k = hs.length := by omega
      have hft : hs.take hs.length = hs := List.take_length
      simp -dsimp (decide := true) (maxSteps := 1000000) (disch := first | omega | simp (decide := true) only [bdset_a, Hd.one, Hd.c_length, I16.c_length, I16.one, I16.flat, Hd.flat, hrows.flat, hrows_length, hrow_flat, hrow_len]) only [brun_a, ↓brun_b, envOf, reduceIte, Nat.reduceEqDiff, Nat.reduceAdd, Nat.reduceSub, Nat.reduceMul, Nat.reduceBEq, Nat.reduceLeDiff, Nat.reduceLT, beq_self_eq_true, cond_true, cond_false, Int.reduceToNat, tab.u2, tab.s2, tab.a2, tab.u3, tab.s3, tab.a3, tab.u5, tab.s5, tab.a5, tab.u23, tab.s23, tab.a23, tab.u24, tab.s24, tab.a24, tab.u26, tab.s26, tab.a26, tab.f26x0, tab.f26x1, tab.f26x2, I16.part, Hd.part_id, Hd.part_n, Hd.part_far, Hd.part, Hd.c_length, I16.c_length, hrows_length, hrows_getD, hft]
      refine SQ.runL (rs := [.tmp 4]) [0] _ _ rfl (And.intro rfl rfl) (by decide) rfl rfl ?_ ?_
      · simp -dsimp (decide := true) (maxSteps := 1000000) (disch := first | omega | simp (decide := true) only [bdset_a, Hd.one, Hd.c_length, I16.c_length, I16.one, I16.flat, Hd.flat, hrows.flat, hrows_length, hrow_flat, hrow_len]) only [brun_a, ↓brun_b, envOf, reduceIte, Nat.reduceEqDiff, Nat.reduceAdd, Nat.reduceSub, Nat.reduceMul, Nat.reduceBEq, Nat.reduceLeDiff, Nat.reduceLT, beq_self_eq_true, cond_true, cond_false, Int.reduceToNat, tab.u2, tab.s2, tab.a2, tab.u3, tab.s3, tab.a3, tab.u5, tab.s5, tab.a5, tab.u23, tab.s23, tab.a23, tab.u24, tab.s24, tab.a24, tab.u26, tab.s26, tab.a26, tab.f26x0, tab.f26x1, tab.f26x2, I16.part, Hd.part_id, Hd.part_n, Hd.part_far, Hd.part, Hd.c_length, I16.c_length, hrows_length, hrows_getD, bwk_a, frz1, eq_self, implies_true, rho, ↓reduceIte, forall_const]
      · simp -dsimp (decide := true) (maxSteps := 1000000) (disch := first | omega | simp (decide := true) only [bdset_a, Hd.one, Hd.c_length, I16.c_length, I16.one, I16.flat, Hd.flat, hrows.flat, hrows_length, hrow_flat, hrow_len]) only [brun_a, ↓brun_b, envOf, reduceIte, Nat.reduceEqDiff, Nat.reduceAdd, Nat.reduceSub, Nat.reduceMul, Nat.reduceBEq, Nat.reduceLeDiff, Nat.reduceLT, beq_self_eq_true, cond_true, cond_false, Int.reduceToNat, tab.u2, tab.s2, tab.a2, tab.u3, tab.s3, tab.a3, tab.u5, tab.s5, tab.a5, tab.u23, tab.s23, tab.a23, tab.u24, tab.s24, tab.a24, tab.u26, tab.s26, tab.a26, tab.f26x0, tab.f26x1, tab.f26x2, I16.part, Hd.part_id, Hd.part_n, Hd.part_far, Hd.part, Hd.c_length, I16.c_length, hrows_length, hrows_getD, bwk_a, frz1, eq_self, implies_true, rho, ↓reduceIte, forall_const]
end Go.Proofs
