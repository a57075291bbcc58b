/- The nearest of a list: ident.Nearest and the document's. -/
import Derived.Test.YtheodenjjaoncaaIdG
set_option linter.unusedVariables false
set_option linter.unusedSimpArgs false
namespace Go.SL
open Go
def irows (ns : List Int) : List (List SV) := ns.map idc
theorem irows_length (ns : List Int) : (irows ns).length = ns.length := by simp [irows]
theorem irows_flat (ns : List Int) : SV.flatR (irows ns) = true := flatR_map _ _ idc_flat
theorem irows_getD (ns : List Int) (k : Nat) (h : k < ns.length) : (irows ns).getD k [] = idc (ns.getD k 0) := by
  simp [irows, List.getD_eq_getElem?_getD, h]
theorem irows_get {ns : List Int} {i : Nat} {r : List SV} (h : (irows ns)[i]? = some r) : i < ns.length ∧ r = idc (ns.getD i 0) := by
  unfold irows at h
  rw [List.getElem?_map] at h
  obtain ⟨x, hx, rfl⟩ := Option.map_eq_some_iff.1 h
  have hi := (List.getElem?_eq_some_iff.1 hx).1
  refine ⟨hi, ?_⟩
  rw [List.getD_eq_getElem?_getD, hx]
  rfl
/-- One identity more is looked at. -/
def nstep (x : Int) (ns : List Int) (b : Int) (i : Nat) : Int := if b < 0 then i else if Go.Proofs.nearer x (ns.getD i 0) (ns.getD b.toNat 0) then i else b
def nearTo (x : Int) (ns : List Int) (k : Nat) : Int := (List.range k).foldl (nstep x ns) (-1)
theorem nearTo_zero (x : Int) (ns : List Int) : nearTo x ns 0 = -1 := Eq.trans rfl rfl
theorem nearTo_succ (x : Int) (ns : List Int) (k : Nat) : nearTo x ns (k + 1) = nstep x ns (nearTo x ns k) k := by
  simp [nearTo, List.range_succ]
theorem nearTo_rng (x : Int) (ns : List Int) (k : Nat) : (nearTo x ns k = -1 ∧ k = 0) ∨ (0 ≤ nearTo x ns k ∧ nearTo x ns k < k) := by
  induction k with
  | zero => exact .inl ⟨rfl, rfl⟩
  | succ k ih =>
    rw [nearTo_succ, nstep]
    split
    · omega
    · split <;> omega
end Go.SL
namespace Go.Proofs
open Go Go.SL
set_option maxRecDepth 100000
theorem nearest_calls (x : Int) (ns : List Int) (hb : ns.length < 4611686018427387904) : Pure Try.prog 79 [.agg (idc x), .rsl 16 (irows ns)] (.v (.int .i64 (nearTo x ns ns.length))) := by
  refine SCall.mk (fn := Try.f79) (by kernel_rfl) rfl (Nat.le_of_ble_eq_true (by kernel_rfl)) ?_
  refine Sem.go (k := 1000) ?_
  simp -dsimp (decide := true) (maxSteps := 1000000) (disch := first | omega | simp (decide := true) only [bdset_a, idc_one, idc_flat, idc_length, irows_flat, irows_length]) only [brun_a, ↓brun_b, envOf, reduceIte, Nat.reduceEqDiff, Nat.reduceAdd, Nat.reduceSub, Nat.reduceMul, Nat.reduceBEq, Nat.reduceLeDiff, Nat.reduceLT, beq_self_eq_true, cond_true, cond_false, Int.reduceToNat, tab.u3, tab.s3, tab.a3, tab.u5, tab.s5, tab.a5, tab.u23, tab.s23, tab.a23, tab.u79, tab.s79, tab.a79, idc_part, idc_length, allocI, splice_idc, irows_length, irows_getD]
  refine Sem.loop (ι := {k : Nat // k ≤ ns.length}) (fun k => ⟨29, 0, [(1, .rsl 16 (irows ns)), (2, .ptr 0 0 0), (5, .v (.int .i64 (nearTo x ns k.1))), (8, .rsl 16 (irows ns)), (9, .v (.int .i64 (ns.length : Int))), (10, .v (.int .i64 (k.1 : Int)))], [some (.row ⟨16, 1, true, 23, fun _ => idc x⟩)]⟩) (fun k => ns.length - k.1) ⟨0, by omega⟩ [0] ?_ ?_
  · (refine Wk.ofC ?_; simp -dsimp (decide := true) (maxSteps := 1000000) (disch := first | omega | simp (decide := true) only [bdset_a, idc_one, idc_flat, idc_length, irows_flat, irows_length]) only [brun_a, ↓brun_b, envOf, reduceIte, Nat.reduceEqDiff, Nat.reduceAdd, Nat.reduceSub, Nat.reduceMul, Nat.reduceBEq, Nat.reduceLeDiff, Nat.reduceLT, beq_self_eq_true, cond_true, cond_false, Int.reduceToNat, tab.u3, tab.s3, tab.a3, tab.u5, tab.s5, tab.a5, tab.u23, tab.s23, tab.a23, tab.u79, tab.s79, tab.a79, idc_part, idc_length, allocI, splice_idc, irows_length, irows_getD, nearTo_zero, bwk_a, frz1, eq_self, implies_true, rho, ↓reduceIte, forall_const])
  · rintro ⟨k, hk⟩
    refine Sem.go (k := 1000) ?_
    simp -dsimp (decide := true) (maxSteps := 1000000) (disch := first | omega | simp (decide := true) only [bdset_a, idc_one, idc_flat, idc_length, irows_flat, irows_length]) only [brun_a, ↓brun_b, envOf, reduceIte, Nat.reduceEqDiff, Nat.reduceAdd, Nat.reduceSub, Nat.reduceMul, Nat.reduceBEq, Nat.reduceLeDiff, Nat.reduceLT, beq_self_eq_true, cond_true, cond_false, Int.reduceToNat, tab.u3, tab.s3, tab.a3, tab.u5, tab.s5, tab.a5, tab.u23, tab.s23, tab.a23, tab.u79, tab.s79, tab.a79, idc_part, idc_length, allocI, splice_idc, irows_length, irows_getD]
    refine SCond.split (fun h => ?_) (fun h => ?_)
    · simp only [decide_eq_true_eq] at h
      have hk' : k < ns.length := by omega
      have hw5 : IntKind.i64.wrap ((k : Int) + 1) = ((k + 1 : Nat) : Int) := by rw [wrap_i64 _ (by omega)]; rfl
      simp -dsimp (decide := true) (maxSteps := 1000000) (disch := first | omega | simp (decide := true) only [bdset_a, idc_one, idc_flat, idc_length, irows_flat, irows_length]) only [brun_a, ↓brun_b, envOf, reduceIte, Nat.reduceEqDiff, Nat.reduceAdd, Nat.reduceSub, Nat.reduceMul, Nat.reduceBEq, Nat.reduceLeDiff, Nat.reduceLT, beq_self_eq_true, cond_true, cond_false, Int.reduceToNat, tab.u3, tab.s3, tab.a3, tab.u5, tab.s5, tab.a5, tab.u23, tab.s23, tab.a23, tab.u79, tab.s79, tab.a79, idc_part, idc_length, allocI, splice_idc, irows_length, irows_getD]
      refine And.intro (by omega) ?_
      have hr := nearTo_rng x ns k
      have hs := nearTo_succ x ns k
      rw [nstep] at hs
      generalize hbd : nearTo x ns k = b at *
      refine Sem.draw' (by kernel_rfl) (.one 0 (.one 1 (.one 2 (.one 3 (.one 4 (.one 5 (.one 6 (.one 7 (.one 8 (.alt 9 (.one 10 .done) .non)))))))))) [] (by kernel_rfl) (fun G ff hG hf => ?_)
      simp (decide := true) only [roL_in, roL_row, roL_nil, roL_none, ro_mk, Nat.zero_add, Nat.reduceAdd, List.length_cons, List.length_nil] at hG ⊢
      simp -dsimp (decide := true) (maxSteps := 1000000) (disch := first | omega | simp (decide := true) only [bdset_a, idc_one, idc_flat, idc_length, irows_flat, irows_length]) only [brun_a, ↓brun_b, envOf, reduceIte, Nat.reduceEqDiff, Nat.reduceAdd, Nat.reduceSub, Nat.reduceMul, Nat.reduceBEq, Nat.reduceLeDiff, Nat.reduceLT, beq_self_eq_true, cond_true, cond_false, Int.reduceToNat, tab.u3, tab.s3, tab.a3, tab.u5, tab.s5, tab.a5, tab.u23, tab.s23, tab.a23, tab.u79, tab.s79, tab.a79, idc_part, idc_length, allocI, splice_idc, irows_length, irows_getD, hG]
      refine SIf.split (fun h1 => ?_) (fun h1 => ?_)
      · have h1' : b < 0 := by simpa using h1
        rw [if_pos h1'] at hs
        simp -dsimp (decide := true) (maxSteps := 1000000) (disch := first | omega | simp (decide := true) only [bdset_a, idc_one, idc_flat, idc_length, irows_flat, irows_length]) only [brun_a, ↓brun_b, envOf, reduceIte, Nat.reduceEqDiff, Nat.reduceAdd, Nat.reduceSub, Nat.reduceMul, Nat.reduceBEq, Nat.reduceLeDiff, Nat.reduceLT, beq_self_eq_true, cond_true, cond_false, Int.reduceToNat, tab.u3, tab.s3, tab.a3, tab.u5, tab.s5, tab.a5, tab.u23, tab.s23, tab.a23, tab.u79, tab.s79, tab.a79, idc_part, idc_length, allocI, splice_idc, irows_length, irows_getD, hG, h1]
        refine hf _ (Sem.go (k := 1000) ?_)
        simp (decide := true) only [back_mk, backL_in, backL_row, backL_none, backL_nil, Nat.zero_add, Nat.reduceAdd]
        simp -dsimp (decide := true) (maxSteps := 1000000) (disch := first | omega | simp (decide := true) only [bdset_a, idc_one, idc_flat, idc_length, irows_flat, irows_length]) only [brun_a, ↓brun_b, envOf, reduceIte, Nat.reduceEqDiff, Nat.reduceAdd, Nat.reduceSub, Nat.reduceMul, Nat.reduceBEq, Nat.reduceLeDiff, Nat.reduceLT, beq_self_eq_true, cond_true, cond_false, Int.reduceToNat, tab.u3, tab.s3, tab.a3, tab.u5, tab.s5, tab.a5, tab.u23, tab.s23, tab.a23, tab.u79, tab.s79, tab.a79, idc_part, idc_length, allocI, splice_idc, irows_length, irows_getD, hw5]
        refine ⟨⟨k + 1, by omega⟩, [0], ?_, by show ns.length - (k + 1) < ns.length - k; omega⟩
        (refine Wk.ofC ?_; simp -dsimp (decide := true) (maxSteps := 1000000) (disch := first | omega | simp (decide := true) only [bdset_a, idc_one, idc_flat, idc_length, irows_flat, irows_length]) only [brun_a, ↓brun_b, envOf, reduceIte, Nat.reduceEqDiff, Nat.reduceAdd, Nat.reduceSub, Nat.reduceMul, Nat.reduceBEq, Nat.reduceLeDiff, Nat.reduceLT, beq_self_eq_true, cond_true, cond_false, Int.reduceToNat, tab.u3, tab.s3, tab.a3, tab.u5, tab.s5, tab.a5, tab.u23, tab.s23, tab.a23, tab.u79, tab.s79, tab.a79, idc_part, idc_length, allocI, splice_idc, irows_length, irows_getD, hs, bwk_a, frz1, eq_self, implies_true, rho, ↓reduceIte, forall_const])
      · have h1' : ¬ b < 0 := by simpa using h1
        rw [if_neg h1'] at hs
        have hbt : b.toNat < ns.length := by omega
        simp -dsimp (decide := true) (maxSteps := 1000000) (disch := first | omega | simp (decide := true) only [bdset_a, idc_one, idc_flat, idc_length, irows_flat, irows_length]) only [brun_a, ↓brun_b, envOf, reduceIte, Nat.reduceEqDiff, Nat.reduceAdd, Nat.reduceSub, Nat.reduceMul, Nat.reduceBEq, Nat.reduceLeDiff, Nat.reduceLT, beq_self_eq_true, cond_true, cond_false, Int.reduceToNat, tab.u3, tab.s3, tab.a3, tab.u5, tab.s5, tab.a5, tab.u23, tab.s23, tab.a23, tab.u79, tab.s79, tab.a79, idc_part, idc_length, allocI, splice_idc, irows_length, irows_getD, hG, h1]
        refine And.intro (by omega) ?_
        refine OpSem.callq cal.f80 (nearer_calls _ _ _) rfl rfl rfl (by simp only [bflat_a, idc_flat, irows_flat]) (by simp only [bflat_a, idc_flat, irows_flat]) (by simp -dsimp (decide := true) (maxSteps := 1000000) (disch := first | omega | simp (decide := true) only [bdset_a, idc_one, idc_flat, idc_length, irows_flat, irows_length]) only [brun_a, ↓brun_b, envOf, reduceIte, Nat.reduceEqDiff, Nat.reduceAdd, Nat.reduceSub, Nat.reduceMul, Nat.reduceBEq, Nat.reduceLeDiff, Nat.reduceLT, beq_self_eq_true, cond_true, cond_false, Int.reduceToNat, tab.u3, tab.s3, tab.a3, tab.u5, tab.s5, tab.a5, tab.u23, tab.s23, tab.a23, tab.u79, tab.s79, tab.a79]) ?_
        simp -dsimp (decide := true) (maxSteps := 1000000) (disch := first | omega | simp (decide := true) only [bdset_a, idc_one, idc_flat, idc_length, irows_flat, irows_length]) only [brun_a, ↓brun_b, envOf, reduceIte, Nat.reduceEqDiff, Nat.reduceAdd, Nat.reduceSub, Nat.reduceMul, Nat.reduceBEq, Nat.reduceLeDiff, Nat.reduceLT, beq_self_eq_true, cond_true, cond_false, Int.reduceToNat, tab.u3, tab.s3, tab.a3, tab.u5, tab.s5, tab.a5, tab.u23, tab.s23, tab.a23, tab.u79, tab.s79, tab.a79, idc_part, idc_length, allocI, splice_idc, irows_length, irows_getD, hG, h1]
        refine hf _ (Sem.go (k := 1000) ?_)
        simp (decide := true) only [back_mk, backL_in, backL_row, backL_none, backL_nil, Nat.zero_add, Nat.reduceAdd]
        simp -dsimp (decide := true) (maxSteps := 1000000) (disch := first | omega | simp (decide := true) only [bdset_a, idc_one, idc_flat, idc_length, irows_flat, irows_length]) only [brun_a, ↓brun_b, envOf, reduceIte, Nat.reduceEqDiff, Nat.reduceAdd, Nat.reduceSub, Nat.reduceMul, Nat.reduceBEq, Nat.reduceLeDiff, Nat.reduceLT, beq_self_eq_true, cond_true, cond_false, Int.reduceToNat, tab.u3, tab.s3, tab.a3, tab.u5, tab.s5, tab.a5, tab.u23, tab.s23, tab.a23, tab.u79, tab.s79, tab.a79, idc_part, idc_length, allocI, splice_idc, irows_length, irows_getD]
        refine SCond.split (fun h2 => ?_) (fun h2 => ?_)
        · rw [if_pos h2] at hs
          simp -dsimp (decide := true) (maxSteps := 1000000) (disch := first | omega | simp (decide := true) only [bdset_a, idc_one, idc_flat, idc_length, irows_flat, irows_length]) only [brun_a, ↓brun_b, envOf, reduceIte, Nat.reduceEqDiff, Nat.reduceAdd, Nat.reduceSub, Nat.reduceMul, Nat.reduceBEq, Nat.reduceLeDiff, Nat.reduceLT, beq_self_eq_true, cond_true, cond_false, Int.reduceToNat, tab.u3, tab.s3, tab.a3, tab.u5, tab.s5, tab.a5, tab.u23, tab.s23, tab.a23, tab.u79, tab.s79, tab.a79, idc_part, idc_length, allocI, splice_idc, irows_length, irows_getD, hw5]
          refine ⟨⟨k + 1, by omega⟩, [0], ?_, by show ns.length - (k + 1) < ns.length - k; omega⟩
          (refine Wk.ofC ?_; simp -dsimp (decide := true) (maxSteps := 1000000) (disch := first | omega | simp (decide := true) only [bdset_a, idc_one, idc_flat, idc_length, irows_flat, irows_length]) only [brun_a, ↓brun_b, envOf, reduceIte, Nat.reduceEqDiff, Nat.reduceAdd, Nat.reduceSub, Nat.reduceMul, Nat.reduceBEq, Nat.reduceLeDiff, Nat.reduceLT, beq_self_eq_true, cond_true, cond_false, Int.reduceToNat, tab.u3, tab.s3, tab.a3, tab.u5, tab.s5, tab.a5, tab.u23, tab.s23, tab.a23, tab.u79, tab.s79, tab.a79, idc_part, idc_length, allocI, splice_idc, irows_length, irows_getD, hs, bwk_a, frz1, eq_self, implies_true, rho, ↓reduceIte, forall_const])
        · rw [if_neg (by rw [h2]; decide)] at hs
          simp -dsimp (decide := true) (maxSteps := 1000000) (disch := first | omega | simp (decide := true) only [bdset_a, idc_one, idc_flat, idc_length, irows_flat, irows_length]) only [brun_a, ↓brun_b, envOf, reduceIte, Nat.reduceEqDiff, Nat.reduceAdd, Nat.reduceSub, Nat.reduceMul, Nat.reduceBEq, Nat.reduceLeDiff, Nat.reduceLT, beq_self_eq_true, cond_true, cond_false, Int.reduceToNat, tab.u3, tab.s3, tab.a3, tab.u5, tab.s5, tab.a5, tab.u23, tab.s23, tab.a23, tab.u79, tab.s79, tab.a79, idc_part, idc_length, allocI, splice_idc, irows_length, irows_getD, hw5]
          refine ⟨⟨k + 1, by omega⟩, [0], ?_, by show ns.length - (k + 1) < ns.length - k; omega⟩
          (refine Wk.ofC ?_; simp -dsimp (decide := true) (maxSteps := 1000000) (disch := first | omega | simp (decide := true) only [bdset_a, idc_one, idc_flat, idc_length, irows_flat, irows_length]) only [brun_a, ↓brun_b, envOf, reduceIte, Nat.reduceEqDiff, Nat.reduceAdd, Nat.reduceSub, Nat.reduceMul, Nat.reduceBEq, Nat.reduceLeDiff, Nat.reduceLT, beq_self_eq_true, cond_true, cond_false, Int.reduceToNat, tab.u3, tab.s3, tab.a3, tab.u5, tab.s5, tab.a5, tab.u23, tab.s23, tab.a23, tab.u79, tab.s79, tab.a79, idc_part, idc_length, allocI, splice_idc, irows_length, irows_getD, hs, bwk_a, frz1, eq_self, implies_true, rho, ↓reduceIte, forall_const])
    · simp only [decide_eq_false_iff_not] at h
      obtain rfl : k = ns.length := by omega
      simp -dsimp (decide := true) (maxSteps := 1000000) (disch := first | omega | simp (decide := true) only [bdset_a, idc_one, idc_flat, idc_length, irows_flat, irows_length]) only [brun_a, ↓brun_b, envOf, reduceIte, Nat.reduceEqDiff, Nat.reduceAdd, Nat.reduceSub, Nat.reduceMul, Nat.reduceBEq, Nat.reduceLeDiff, Nat.reduceLT, beq_self_eq_true, cond_true, cond_false, Int.reduceToNat, tab.u3, tab.s3, tab.a3, tab.u5, tab.s5, tab.a5, tab.u23, tab.s23, tab.a23, tab.u79, tab.s79, tab.a79, idc_part, idc_length, allocI, splice_idc, irows_length, irows_getD]
      refine SQ.answer (rs := [.tmp 4]) rfl rfl ?_
      simp -dsimp (decide := true) (maxSteps := 1000000) (disch := first | omega | simp (decide := true) only [bdset_a, idc_one, idc_flat, idc_length, irows_flat, irows_length]) only [brun_a, ↓brun_b, envOf, reduceIte, Nat.reduceEqDiff, Nat.reduceAdd, Nat.reduceSub, Nat.reduceMul, Nat.reduceBEq, Nat.reduceLeDiff, Nat.reduceLT, beq_self_eq_true, cond_true, cond_false, Int.reduceToNat, tab.u3, tab.s3, tab.a3, tab.u5, tab.s5, tab.a5, tab.u23, tab.s23, tab.a23, tab.u79, tab.s79, tab.a79, bwk_a, frz1, eq_self, implies_true, rho, ↓reduceIte, forall_const]
end Go.Proofs
