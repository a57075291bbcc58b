/- IdentOne, told of values. -/
import Derived.Test.YtheodenjjaoncaaIdK
set_option linter.unusedVariables false
set_option linter.unusedSimpArgs false
namespace Go.SL
open Go
def three (a b c : Int) : List SV := idc a ++ (idc b ++ idc c)
theorem three_length (a b c : Int) : (three a b c).length = 48 := by simp [three, idc_length]
theorem three_flat (a b c : Int) : SV.flatL (three a b c) = true := flatL_append _ _ (idc_flat a) (flatL_append _ _ (idc_flat b) (idc_flat c))
theorem three_one (a b c : Int) : (three a b c).all SV.one = true := by simp only [three, List.all_append, idc_one, Bool.and_self]
theorem three_0 (a b c : Int) : spart true (three a b c) 0 16 = .agg (idc a) := by simp [spart, three, idc_length]
theorem three_1 (a b c : Int) : spart true (three a b c) 16 16 = .agg (idc b) := by simp [spart, three, idc_length]
theorem three_2 (a b c : Int) : spart true (three a b c) 32 16 = .agg (idc c) := by simp [spart, three, idc_length, List.take_of_length_le, List.drop_append, List.drop_of_length_le]
end Go.SL
namespace Go.Proofs
open Go Go.SL
set_option maxRecDepth 100000
theorem cls_idcs {n m : Nat} {t : TypeId} (ht : Try.prog.underlying t = some (.array m 23)) {l : List SV} (h : ClsC Try.prog (n + 3) t l) : ∃ ns : List Int, l = (ns.map idc).flatten ∧ ns.length = m := by
  unfold ClsC at h
  rw [ht] at h
  obtain ⟨parts, rfl, hlen, hp⟩ := h
  have : ∃ ns : List Int, parts = ns.map idc := by
    clear hlen
    induction parts with
    | nil => exact ⟨[], rfl⟩
    | cons r parts ih =>
      obtain ⟨ns, h1⟩ := ih fun r hr => hp r (by simp [hr])
      obtain ⟨a, h2, _⟩ := cls_idc (hp r (by simp))
      exact ⟨a :: ns, by rw [h1, h2]; rfl⟩
  obtain ⟨ns, rfl⟩ := this
  exact ⟨ns, rfl, by simpa using hlen⟩
theorem cls_three {n : Nat} {l : List SV} (h : ClsC Try.prog (n + 3) 114 l) : ∃ a b c : Int, l = three a b c := by
  obtain ⟨ns, rfl, hl⟩ := cls_idcs tab.u114 h
  match ns, hl with
  | [a, b, c], _ => exact ⟨a, b, c, by simp [three]⟩
/-- Of two unlike identities just one is nearer; of three the order goes on. -/
theorem near_one (x a b c : Int) : nearer x a a = false ∧ (¬ md a = md b → nearer x a b = !nearer x b a) ∧ (nearer x a b = true → nearer x b c = true → nearer x a c = true) := by
  have key : ¬ md a = md b → ¬ md (a - x) = md (b - x) := by
    simp only [md_def]
    omega
  unfold nearer
  generalize md (far a x) = fa at *
  generalize md (far b x) = fb at *
  generalize md (far c x) = fc at *
  generalize md (a - x) = sa at *
  generalize md (b - x) = sb at *
  generalize md (c - x) = sc at *
  refine ⟨?_, fun h => ?_, ?_⟩
  · simp
  · have := key h
    by_cases h1 : fa < fb
    · have h2 : ¬ fb < fa := by omega
      have h3 : ¬ fb = fa := by omega
      simp [h1, h2, h3]
    · by_cases h2 : fa = fb
      · subst h2
        by_cases h3 : sa < sb
        · have h4 : ¬ sb < sa := by omega
          simp [h3, h4]
        · have h4 : sb < sa := by omega
          simp [h3, h4]
      · have h3 : fb < fa := by omega
        simp [h1, h2, h3]
  · simp only [Bool.or_eq_true, Bool.and_eq_true, decide_eq_true_eq]
    omega
theorem bb1 : (true == false) = false := by decide
theorem bb2 : (false == true) = false := by decide
theorem one_calls (x a b c : Int) : Pure Try.prog 22 [.agg (idc x), .agg (three a b c)] (.v (.bool true)) := by
  refine SCall.mk (fn := Try.f22) (by kernel_rfl) rfl (Nat.le_of_ble_eq_true (by kernel_rfl)) ?_
  refine Sem.go (k := 1000) ?_
  simp -dsimp (decide := true) (maxSteps := 1000000) (disch := first | omega | simp (decide := true) only [bdset_a, idc_one, idc_flat, idc_length, three_length, three_flat, three_one]) only [brun_a, ↓brun_b, envOf, reduceIte, Nat.reduceEqDiff, Nat.reduceAdd, Nat.reduceSub, Nat.reduceMul, Nat.reduceBEq, Nat.reduceLeDiff, Nat.reduceLT, beq_self_eq_true, cond_true, cond_false, Int.reduceToNat, tab.u4, tab.s4, tab.a4, tab.u5, tab.s5, tab.a5, tab.u23, tab.s23, tab.a23, tab.u114, tab.s114, tab.a114, idc_part, idc_length, allocI, splice_idc, three_0, three_1, three_2, three_length]
  refine Sem.draw' (by kernel_rfl) (.one 0 (.one 1 (.one 2 (.one 3 (.one 4 (.one 5 (.alt 6 (.alt 7 (.alt 8 (.alt 9 (.alt 10 (.alt 11 .done .non) .non) .non) .non) (.alt 8 (.alt 7 (.alt 9 (.alt 10 (.alt 11 .done .non) .non) .non) .non) .non)) (.alt 7 (.alt 6 (.alt 8 (.alt 9 (.alt 10 (.alt 11 .done .non) .non) .non) .non) (.alt 8 (.alt 6 (.alt 9 (.alt 10 (.alt 11 .done .non) .non) .non) .non) .non)) (.alt 8 (.alt 6 (.alt 7 (.alt 9 (.alt 10 (.alt 11 .done .non) .non) .non) .non) (.alt 7 (.alt 6 (.alt 9 (.alt 10 (.alt 11 .done .non) .non) .non) .non) .non)) .non))))))))) [] (by kernel_rfl) (fun G ff hG hf => ?_)
  simp (decide := true) only [roL_in, roL_row, roL_nil, roL_none, ro_mk, Nat.zero_add, Nat.reduceAdd, List.length_cons, List.length_nil] at hG ⊢
  have hf2 := fun hc s' l wk => hf s' (Sem.weaken (s' := ⟨61, 0, [(2, .ptr 0 0 0), (5, .ptr 1 0 0), (6, .ptr 2 0 0), (7, .ptr 3 0 0)], [some (.row ⟨16, 1, true, 23, fun _ => idc x⟩), some (.row ⟨16, 1, true, 23, fun _ => idc a⟩), some (.row ⟨16, 1, true, 23, fun _ => idc b⟩), some (.row ⟨16, 1, true, 23, fun _ => idc c⟩)]⟩) l wk hc)
  obtain ⟨n1, n2, n3⟩ := near_one x a b c
  replace hf2 := hf2 (by
    refine Sem.go (k := 1000) ?_
    simp -dsimp (decide := true) (maxSteps := 1000000) (disch := first | omega | simp (decide := true) only [bdset_a, idc_one, idc_flat, idc_length, three_length, three_flat, three_one]) only [brun_a, ↓brun_b, envOf, reduceIte, Nat.reduceEqDiff, Nat.reduceAdd, Nat.reduceSub, Nat.reduceMul, Nat.reduceBEq, Nat.reduceLeDiff, Nat.reduceLT, beq_self_eq_true, cond_true, cond_false, Int.reduceToNat, tab.u4, tab.s4, tab.a4, tab.u5, tab.s5, tab.a5, tab.u23, tab.s23, tab.a23, tab.u114, tab.s114, tab.a114, idc_part, idc_length, allocI, splice_idc, three_0, three_1, three_2, three_length]
    refine SemOps.callq (k := 1000) cal.f71 (fixed1_calls) rfl rfl rfl rfl (by simp only [bflat_a, idc_flat, three_flat]) (by simp only [bflat_a, idc_flat, three_flat]) (by simp -dsimp (decide := true) (maxSteps := 1000000) (disch := first | omega | simp (decide := true) only [bdset_a, idc_one, idc_flat, idc_length, three_length, three_flat, three_one]) only [brun_a, ↓brun_b, envOf, reduceIte, Nat.reduceEqDiff, Nat.reduceAdd, Nat.reduceSub, Nat.reduceMul, Nat.reduceBEq, Nat.reduceLeDiff, Nat.reduceLT, beq_self_eq_true, cond_true, cond_false, Int.reduceToNat, tab.u4, tab.s4, tab.a4, tab.u5, tab.s5, tab.a5, tab.u23, tab.s23, tab.a23, tab.u114, tab.s114, tab.a114]) ?_
    simp -dsimp (decide := true) (maxSteps := 1000000) (disch := first | omega | simp (decide := true) only [bdset_a, idc_one, idc_flat, idc_length, three_length, three_flat, three_one]) only [brun_a, ↓brun_b, envOf, reduceIte, Nat.reduceEqDiff, Nat.reduceAdd, Nat.reduceSub, Nat.reduceMul, Nat.reduceBEq, Nat.reduceLeDiff, Nat.reduceLT, beq_self_eq_true, cond_true, cond_false, Int.reduceToNat, tab.u4, tab.s4, tab.a4, tab.u5, tab.s5, tab.a5, tab.u23, tab.s23, tab.a23, tab.u114, tab.s114, tab.a114, idc_part, idc_length, allocI, splice_idc, three_0, three_1, three_2, three_length, sBin_agg .eql 23 _ _ _ (idc_cellsEq _ _)]
    refine And.intro (idc_flatEq _ _) ?_
    refine SCond.split (fun h => ?_) (fun h => ?_)
    · simp -dsimp (decide := true) (maxSteps := 1000000) (disch := first | omega | simp (decide := true) only [bdset_a, idc_one, idc_flat, idc_length, three_length, three_flat, three_one]) only [brun_a, ↓brun_b, envOf, reduceIte, Nat.reduceEqDiff, Nat.reduceAdd, Nat.reduceSub, Nat.reduceMul, Nat.reduceBEq, Nat.reduceLeDiff, Nat.reduceLT, beq_self_eq_true, cond_true, cond_false, Int.reduceToNat, tab.u4, tab.s4, tab.a4, tab.u5, tab.s5, tab.a5, tab.u23, tab.s23, tab.a23, tab.u114, tab.s114, tab.a114, idc_part, idc_length, allocI, splice_idc, three_0, three_1, three_2, three_length]
      refine SemOps.callq (k := 1000) cal.f71 (fixed1_calls) rfl rfl rfl rfl (by simp only [bflat_a, idc_flat, three_flat]) (by simp only [bflat_a, idc_flat, three_flat]) (by simp -dsimp (decide := true) (maxSteps := 1000000) (disch := first | omega | simp (decide := true) only [bdset_a, idc_one, idc_flat, idc_length, three_length, three_flat, three_one]) only [brun_a, ↓brun_b, envOf, reduceIte, Nat.reduceEqDiff, Nat.reduceAdd, Nat.reduceSub, Nat.reduceMul, Nat.reduceBEq, Nat.reduceLeDiff, Nat.reduceLT, beq_self_eq_true, cond_true, cond_false, Int.reduceToNat, tab.u4, tab.s4, tab.a4, tab.u5, tab.s5, tab.a5, tab.u23, tab.s23, tab.a23, tab.u114, tab.s114, tab.a114]) ?_
      simp -dsimp (decide := true) (maxSteps := 1000000) (disch := first | omega | simp (decide := true) only [bdset_a, idc_one, idc_flat, idc_length, three_length, three_flat, three_one]) only [brun_a, ↓brun_b, envOf, reduceIte, Nat.reduceEqDiff, Nat.reduceAdd, Nat.reduceSub, Nat.reduceMul, Nat.reduceBEq, Nat.reduceLeDiff, Nat.reduceLT, beq_self_eq_true, cond_true, cond_false, Int.reduceToNat, tab.u4, tab.s4, tab.a4, tab.u5, tab.s5, tab.a5, tab.u23, tab.s23, tab.a23, tab.u114, tab.s114, tab.a114, idc_part, idc_length, allocI, splice_idc, three_0, three_1, three_2, three_length]
      refine SemOps.callq (k := 1000) cal.f80 (nearer_calls _ _ _) rfl rfl rfl rfl (by simp only [bflat_a, idc_flat, three_flat]) (by simp only [bflat_a, idc_flat, three_flat]) (by simp -dsimp (decide := true) (maxSteps := 1000000) (disch := first | omega | simp (decide := true) only [bdset_a, idc_one, idc_flat, idc_length, three_length, three_flat, three_one]) only [brun_a, ↓brun_b, envOf, reduceIte, Nat.reduceEqDiff, Nat.reduceAdd, Nat.reduceSub, Nat.reduceMul, Nat.reduceBEq, Nat.reduceLeDiff, Nat.reduceLT, beq_self_eq_true, cond_true, cond_false, Int.reduceToNat, tab.u4, tab.s4, tab.a4, tab.u5, tab.s5, tab.a5, tab.u23, tab.s23, tab.a23, tab.u114, tab.s114, tab.a114]) ?_
      simp -dsimp (decide := true) (maxSteps := 1000000) (disch := first | omega | simp (decide := true) only [bdset_a, idc_one, idc_flat, idc_length, three_length, three_flat, three_one]) only [brun_a, ↓brun_b, envOf, reduceIte, Nat.reduceEqDiff, Nat.reduceAdd, Nat.reduceSub, Nat.reduceMul, Nat.reduceBEq, Nat.reduceLeDiff, Nat.reduceLT, beq_self_eq_true, cond_true, cond_false, Int.reduceToNat, tab.u4, tab.s4, tab.a4, tab.u5, tab.s5, tab.a5, tab.u23, tab.s23, tab.a23, tab.u114, tab.s114, tab.a114, idc_part, idc_length, allocI, splice_idc, three_0, three_1, three_2, three_length, n1]
      refine SQ.answer (rs := [.tmp 4]) rfl rfl ?_
      simp -dsimp (decide := true) (maxSteps := 1000000) (disch := first | omega | simp (decide := true) only [bdset_a, idc_one, idc_flat, idc_length, three_length, three_flat, three_one]) only [brun_a, ↓brun_b, envOf, reduceIte, Nat.reduceEqDiff, Nat.reduceAdd, Nat.reduceSub, Nat.reduceMul, Nat.reduceBEq, Nat.reduceLeDiff, Nat.reduceLT, beq_self_eq_true, cond_true, cond_false, Int.reduceToNat, tab.u4, tab.s4, tab.a4, tab.u5, tab.s5, tab.a5, tab.u23, tab.s23, tab.a23, tab.u114, tab.s114, tab.a114, bwk_a, frz1, eq_self, implies_true, rho, ↓reduceIte, forall_const]
    · simp only [decide_eq_false_iff_not] at h
      have n4 := n2 h
      simp -dsimp (decide := true) (maxSteps := 1000000) (disch := first | omega | simp (decide := true) only [bdset_a, idc_one, idc_flat, idc_length, three_length, three_flat, three_one]) only [brun_a, ↓brun_b, envOf, reduceIte, Nat.reduceEqDiff, Nat.reduceAdd, Nat.reduceSub, Nat.reduceMul, Nat.reduceBEq, Nat.reduceLeDiff, Nat.reduceLT, beq_self_eq_true, cond_true, cond_false, Int.reduceToNat, tab.u4, tab.s4, tab.a4, tab.u5, tab.s5, tab.a5, tab.u23, tab.s23, tab.a23, tab.u114, tab.s114, tab.a114, idc_part, idc_length, allocI, splice_idc, three_0, three_1, three_2, three_length]
      refine Sem.draw' (by kernel_rfl) (.one 0 (.one 1 (.one 2 (.one 4 (.one 5 (.one 6 (.one 8 (.one 9 (.one 10 (.alt 3 (.alt 7 (.alt 11 (.one 12 (.one 13 (.one 14 .done))) .non) .non) .non)))))))))) [] (by kernel_rfl) (fun G ff hG hf => ?_)
      simp (decide := true) only [roL_in, roL_row, roL_nil, roL_none, ro_mk, Nat.zero_add, Nat.reduceAdd, List.length_cons, List.length_nil] at hG ⊢
      simp -dsimp (decide := true) (maxSteps := 1000000) (disch := first | omega | simp (decide := true) only [bdset_a, idc_one, idc_flat, idc_length, three_length, three_flat, three_one]) only [brun_a, ↓brun_b, envOf, reduceIte, Nat.reduceEqDiff, Nat.reduceAdd, Nat.reduceSub, Nat.reduceMul, Nat.reduceBEq, Nat.reduceLeDiff, Nat.reduceLT, beq_self_eq_true, cond_true, cond_false, Int.reduceToNat, tab.u4, tab.s4, tab.a4, tab.u5, tab.s5, tab.a5, tab.u23, tab.s23, tab.a23, tab.u114, tab.s114, tab.a114, idc_part, idc_length, allocI, splice_idc, three_0, three_1, three_2, three_length, hG]
      repeat' (first | (refine And.intro ?_ ?_) | (refine OpSem.callq cal.f80 (nearer_calls _ _ _) rfl rfl rfl (by simp only [bflat_a, idc_flat, three_flat]) (by simp only [bflat_a, idc_flat, three_flat]) (by simp -dsimp (decide := true) (maxSteps := 1000000) (disch := first | omega | simp (decide := true) only [bdset_a, idc_one, idc_flat, idc_length, three_length, three_flat, three_one]) only [brun_a, ↓brun_b, envOf, reduceIte, Nat.reduceEqDiff, Nat.reduceAdd, Nat.reduceSub, Nat.reduceMul, Nat.reduceBEq, Nat.reduceLeDiff, Nat.reduceLT, beq_self_eq_true, cond_true, cond_false, Int.reduceToNat, tab.u4, tab.s4, tab.a4, tab.u5, tab.s5, tab.a5, tab.u23, tab.s23, tab.a23, tab.u114, tab.s114, tab.a114]) ?_; simp -dsimp (decide := true) (maxSteps := 1000000) (disch := first | omega | simp (decide := true) only [bdset_a, idc_one, idc_flat, idc_length, three_length, three_flat, three_one]) only [brun_a, ↓brun_b, envOf, reduceIte, Nat.reduceEqDiff, Nat.reduceAdd, Nat.reduceSub, Nat.reduceMul, Nat.reduceBEq, Nat.reduceLeDiff, Nat.reduceLT, beq_self_eq_true, cond_true, cond_false, Int.reduceToNat, tab.u4, tab.s4, tab.a4, tab.u5, tab.s5, tab.a5, tab.u23, tab.s23, tab.a23, tab.u114, tab.s114, tab.a114, idc_part, idc_length, allocI, splice_idc, three_0, three_1, three_2, three_length, hG]))
      refine hf _ (Sem.go (k := 1000) ?_)
      simp (decide := true) only [back_mk, backL_in, backL_row, backL_none, backL_nil, Nat.zero_add, Nat.reduceAdd]
      simp -dsimp (decide := true) (maxSteps := 1000000) (disch := first | omega | simp (decide := true) only [bdset_a, idc_one, idc_flat, idc_length, three_length, three_flat, three_one]) only [brun_a, ↓brun_b, envOf, reduceIte, Nat.reduceEqDiff, Nat.reduceAdd, Nat.reduceSub, Nat.reduceMul, Nat.reduceBEq, Nat.reduceLeDiff, Nat.reduceLT, beq_self_eq_true, cond_true, cond_false, Int.reduceToNat, tab.u4, tab.s4, tab.a4, tab.u5, tab.s5, tab.a5, tab.u23, tab.s23, tab.a23, tab.u114, tab.s114, tab.a114, idc_part, idc_length, allocI, splice_idc, three_0, three_1, three_2, three_length]
      refine SemOps.callq (k := 1000) cal.f80 (nearer_calls _ _ _) rfl rfl rfl rfl (by simp only [bflat_a, idc_flat, three_flat]) (by simp only [bflat_a, idc_flat, three_flat]) (by simp -dsimp (decide := true) (maxSteps := 1000000) (disch := first | omega | simp (decide := true) only [bdset_a, idc_one, idc_flat, idc_length, three_length, three_flat, three_one]) only [brun_a, ↓brun_b, envOf, reduceIte, Nat.reduceEqDiff, Nat.reduceAdd, Nat.reduceSub, Nat.reduceMul, Nat.reduceBEq, Nat.reduceLeDiff, Nat.reduceLT, beq_self_eq_true, cond_true, cond_false, Int.reduceToNat, tab.u4, tab.s4, tab.a4, tab.u5, tab.s5, tab.a5, tab.u23, tab.s23, tab.a23, tab.u114, tab.s114, tab.a114]) ?_
      generalize nearer x b a = q at *
      generalize nearer x a b = p at *
      generalize nearer x b c = r at *
      generalize nearer x a c = t at *
      subst n4
      cases q <;> cases r <;> cases t <;> simp at n3
      all_goals simp -dsimp (decide := true) (maxSteps := 1000000) (disch := first | omega | simp (decide := true) only [bdset_a, idc_one, idc_flat, idc_length, three_length, three_flat, three_one]) only [brun_a, ↓brun_b, envOf, reduceIte, Nat.reduceEqDiff, Nat.reduceAdd, Nat.reduceSub, Nat.reduceMul, Nat.reduceBEq, Nat.reduceLeDiff, Nat.reduceLT, beq_self_eq_true, cond_true, cond_false, Int.reduceToNat, tab.u4, tab.s4, tab.a4, tab.u5, tab.s5, tab.a5, tab.u23, tab.s23, tab.a23, tab.u114, tab.s114, tab.a114, idc_part, idc_length, allocI, splice_idc, three_0, three_1, three_2, three_length, bb1, bb2]
      all_goals
        refine SQ.answer (rs := [.tmp 4]) rfl rfl ?_
        simp -dsimp (decide := true) (maxSteps := 1000000) (disch := first | omega | simp (decide := true) only [bdset_a, idc_one, idc_flat, idc_length, three_length, three_flat, three_one]) only [brun_a, ↓brun_b, envOf, reduceIte, Nat.reduceEqDiff, Nat.reduceAdd, Nat.reduceSub, Nat.reduceMul, Nat.reduceBEq, Nat.reduceLeDiff, Nat.reduceLT, beq_self_eq_true, cond_true, cond_false, Int.reduceToNat, tab.u4, tab.s4, tab.a4, tab.u5, tab.s5, tab.a5, tab.u23, tab.s23, tab.a23, tab.u114, tab.s114, tab.a114, bwk_a, frz1, eq_self, implies_true, rho, ↓reduceIte, forall_const])
  simp -dsimp (decide := true) (maxSteps := 1000000) (disch := first | omega | simp (decide := true) only [bdset_a, idc_one, idc_flat, idc_length, three_length, three_flat, three_one]) only [brun_a, ↓brun_b, envOf, reduceIte, Nat.reduceEqDiff, Nat.reduceAdd, Nat.reduceSub, Nat.reduceMul, Nat.reduceBEq, Nat.reduceLeDiff, Nat.reduceLT, beq_self_eq_true, cond_true, cond_false, Int.reduceToNat, tab.u4, tab.s4, tab.a4, tab.u5, tab.s5, tab.a5, tab.u23, tab.s23, tab.a23, tab.u114, tab.s114, tab.a114, idc_part, idc_length, allocI, splice_idc, three_0, three_1, three_2, three_length, hG]
  repeat' (first | (first | (refine hf2 _ [0, 2, 3, 4] ?_; simp (decide := true) only [back_mk, backL_in, backL_row, backL_none, backL_nil, Nat.zero_add, Nat.reduceAdd]; (refine Wk.ofC ?_; simp -dsimp (decide := true) (maxSteps := 1000000) (disch := first | omega | simp (decide := true) only [bdset_a, idc_one, idc_flat, idc_length, three_length, three_flat, three_one]) only [brun_a, ↓brun_b, envOf, reduceIte, Nat.reduceEqDiff, Nat.reduceAdd, Nat.reduceSub, Nat.reduceMul, Nat.reduceBEq, Nat.reduceLeDiff, Nat.reduceLT, beq_self_eq_true, cond_true, cond_false, Int.reduceToNat, tab.u4, tab.s4, tab.a4, tab.u5, tab.s5, tab.a5, tab.u23, tab.s23, tab.a23, tab.u114, tab.s114, tab.a114, idc_part, idc_length, allocI, splice_idc, three_0, three_1, three_2, three_length, hG, bwk_a, frz1, eq_self, implies_true, rho, ↓reduceIte, forall_const]); done) | (refine hf2 _ [0, 2, 4, 3] ?_; simp (decide := true) only [back_mk, backL_in, backL_row, backL_none, backL_nil, Nat.zero_add, Nat.reduceAdd]; (refine Wk.ofC ?_; simp -dsimp (decide := true) (maxSteps := 1000000) (disch := first | omega | simp (decide := true) only [bdset_a, idc_one, idc_flat, idc_length, three_length, three_flat, three_one]) only [brun_a, ↓brun_b, envOf, reduceIte, Nat.reduceEqDiff, Nat.reduceAdd, Nat.reduceSub, Nat.reduceMul, Nat.reduceBEq, Nat.reduceLeDiff, Nat.reduceLT, beq_self_eq_true, cond_true, cond_false, Int.reduceToNat, tab.u4, tab.s4, tab.a4, tab.u5, tab.s5, tab.a5, tab.u23, tab.s23, tab.a23, tab.u114, tab.s114, tab.a114, idc_part, idc_length, allocI, splice_idc, three_0, three_1, three_2, three_length, hG, bwk_a, frz1, eq_self, implies_true, rho, ↓reduceIte, forall_const]); done) | (refine hf2 _ [0, 3, 2, 4] ?_; simp (decide := true) only [back_mk, backL_in, backL_row, backL_none, backL_nil, Nat.zero_add, Nat.reduceAdd]; (refine Wk.ofC ?_; simp -dsimp (decide := true) (maxSteps := 1000000) (disch := first | omega | simp (decide := true) only [bdset_a, idc_one, idc_flat, idc_length, three_length, three_flat, three_one]) only [brun_a, ↓brun_b, envOf, reduceIte, Nat.reduceEqDiff, Nat.reduceAdd, Nat.reduceSub, Nat.reduceMul, Nat.reduceBEq, Nat.reduceLeDiff, Nat.reduceLT, beq_self_eq_true, cond_true, cond_false, Int.reduceToNat, tab.u4, tab.s4, tab.a4, tab.u5, tab.s5, tab.a5, tab.u23, tab.s23, tab.a23, tab.u114, tab.s114, tab.a114, idc_part, idc_length, allocI, splice_idc, three_0, three_1, three_2, three_length, hG, bwk_a, frz1, eq_self, implies_true, rho, ↓reduceIte, forall_const]); done) | (refine hf2 _ [0, 3, 4, 2] ?_; simp (decide := true) only [back_mk, backL_in, backL_row, backL_none, backL_nil, Nat.zero_add, Nat.reduceAdd]; (refine Wk.ofC ?_; simp -dsimp (decide := true) (maxSteps := 1000000) (disch := first | omega | simp (decide := true) only [bdset_a, idc_one, idc_flat, idc_length, three_length, three_flat, three_one]) only [brun_a, ↓brun_b, envOf, reduceIte, Nat.reduceEqDiff, Nat.reduceAdd, Nat.reduceSub, Nat.reduceMul, Nat.reduceBEq, Nat.reduceLeDiff, Nat.reduceLT, beq_self_eq_true, cond_true, cond_false, Int.reduceToNat, tab.u4, tab.s4, tab.a4, tab.u5, tab.s5, tab.a5, tab.u23, tab.s23, tab.a23, tab.u114, tab.s114, tab.a114, idc_part, idc_length, allocI, splice_idc, three_0, three_1, three_2, three_length, hG, bwk_a, frz1, eq_self, implies_true, rho, ↓reduceIte, forall_const]); done) | (refine hf2 _ [0, 4, 2, 3] ?_; simp (decide := true) only [back_mk, backL_in, backL_row, backL_none, backL_nil, Nat.zero_add, Nat.reduceAdd]; (refine Wk.ofC ?_; simp -dsimp (decide := true) (maxSteps := 1000000) (disch := first | omega | simp (decide := true) only [bdset_a, idc_one, idc_flat, idc_length, three_length, three_flat, three_one]) only [brun_a, ↓brun_b, envOf, reduceIte, Nat.reduceEqDiff, Nat.reduceAdd, Nat.reduceSub, Nat.reduceMul, Nat.reduceBEq, Nat.reduceLeDiff, Nat.reduceLT, beq_self_eq_true, cond_true, cond_false, Int.reduceToNat, tab.u4, tab.s4, tab.a4, tab.u5, tab.s5, tab.a5, tab.u23, tab.s23, tab.a23, tab.u114, tab.s114, tab.a114, idc_part, idc_length, allocI, splice_idc, three_0, three_1, three_2, three_length, hG, bwk_a, frz1, eq_self, implies_true, rho, ↓reduceIte, forall_const]); done) | (refine hf2 _ [0, 4, 3, 2] ?_; simp (decide := true) only [back_mk, backL_in, backL_row, backL_none, backL_nil, Nat.zero_add, Nat.reduceAdd]; (refine Wk.ofC ?_; simp -dsimp (decide := true) (maxSteps := 1000000) (disch := first | omega | simp (decide := true) only [bdset_a, idc_one, idc_flat, idc_length, three_length, three_flat, three_one]) only [brun_a, ↓brun_b, envOf, reduceIte, Nat.reduceEqDiff, Nat.reduceAdd, Nat.reduceSub, Nat.reduceMul, Nat.reduceBEq, Nat.reduceLeDiff, Nat.reduceLT, beq_self_eq_true, cond_true, cond_false, Int.reduceToNat, tab.u4, tab.s4, tab.a4, tab.u5, tab.s5, tab.a5, tab.u23, tab.s23, tab.a23, tab.u114, tab.s114, tab.a114, idc_part, idc_length, allocI, splice_idc, three_0, three_1, three_2, three_length, hG, bwk_a, frz1, eq_self, implies_true, rho, ↓reduceIte, forall_const]); done)) | (refine And.intro ?_ ?_))
theorem identOne_law (l0 l1 : List SV) (h0 : ClsC Try.prog 20 23 l0) (h1 : ClsC Try.prog 20 114 l1) : Pure Try.prog 22 [.agg l0, .agg l1] (.v (.bool true)) := by
  obtain ⟨x, rfl, _⟩ := cls_idc h0
  obtain ⟨a, b, c, rfl⟩ := cls_three h1
  exact one_calls x a b c
end Go.Proofs
