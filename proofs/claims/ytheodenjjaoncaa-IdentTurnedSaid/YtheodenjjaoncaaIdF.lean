/- The document's reading of an identity's text: annuletref01.Parse. -/
import Derived.Test.YtheodenjjaoncaaIdE
set_option linter.unusedVariables false
set_option linter.unusedSimpArgs false
namespace Go.SL
open Go
theorem strAt_list (s : ByteArray) (l : List UInt8) (hl : s.data.toList = l) (i : Nat) : strAt s i = ((l.getD i 0).toNat : Int) := by
  subst hl
  rw [strAt, List.getD_eq_getElem?_getD, Array.getElem?_toList]
end Go.SL
namespace Go.Proofs
open Go Go.SL
set_option maxRecDepth 100000
theorem refParse_calls (s : ByteArray) (hs : s.size < 4611686018427387904) : Pure Try.prog 87 [.v (.string s)] (.tup [.agg (idc (pnum s.data.toList)), .v (.int .i64 (pcode s.data.toList 0))]) := by
  have hsz : s.size = s.data.toList.length := rfl
  have hbld : sBuild Try.prog 23 [] = some ⟨.agg (idc 0), {}, True⟩ := by
    rw [idc_def, sBuild_eq, tab.z23, tab.l23]
    rfl
  have hat := strAt_list s _ rfl
  refine SCall.mk (fn := Try.f87) (by kernel_rfl) rfl (Nat.le_of_ble_eq_true (by kernel_rfl)) ?_
  refine Sem.go (k := 1000) ?_
  simp -dsimp (decide := true) (maxSteps := 1000000) (disch := first | omega | simp (decide := true) only [bdset_a, idc_one, idc_flat, idc_length, cellsI_length, cellsI_flat, prow_length]) only [brun_a, ↓brun_b, envOf, reduceIte, Nat.reduceEqDiff, Nat.reduceAdd, Nat.reduceSub, Nat.reduceMul, Nat.reduceBEq, Nat.reduceLeDiff, Nat.reduceLT, beq_self_eq_true, cond_true, cond_false, Int.reduceToNat, tab.u3, tab.s3, tab.a3, tab.u5, tab.s5, tab.a5, tab.u9, tab.s9, tab.a9, tab.u23, tab.s23, tab.a23, idc_part, idc_length, allocI, splice_idc]
  generalize hl : s.data.toList = l at *
  refine Sem.loop (ι := {k : Nat // k ≤ 32 ∧ k ≤ l.length ∧ pcode l 0 = pcode (l.drop k) k}) (fun k => ⟨56, 0, [(0, .v (.string s)), (2, .ptr 0 0 0), (4, .ptr 1 0 0), (5, .v (.int .i64 (k.1 : Int)))],
    [some (.row ⟨16, 1, true, 23, fun _ => idc 0⟩), some (.row ⟨16, 1, true, 23, fun _ => cellsI (prow l k.1)⟩)]⟩) (fun k => l.length - k.1) ⟨0, by omega, by omega, rfl⟩ [0, 1] ?_ ?_
  · (refine Wk.ofC ?_; simp -dsimp (decide := true) (maxSteps := 1000000) (disch := first | omega | simp (decide := true) only [bdset_a, idc_one, idc_flat, idc_length, cellsI_length, cellsI_flat, prow_length]) only [brun_a, ↓brun_b, envOf, reduceIte, Nat.reduceEqDiff, Nat.reduceAdd, Nat.reduceSub, Nat.reduceMul, Nat.reduceBEq, Nat.reduceLeDiff, Nat.reduceLT, beq_self_eq_true, cond_true, cond_false, Int.reduceToNat, tab.u3, tab.s3, tab.a3, tab.u5, tab.s5, tab.a5, tab.u9, tab.s9, tab.a9, tab.u23, tab.s23, tab.a23, idc_part, idc_length, allocI, splice_idc, prow_zero, bwk_a, frz1, eq_self, implies_true, rho, ↓reduceIte, forall_const])
  · rintro ⟨k, hk, hkl, hc⟩
    refine Sem.go (k := 1000) ?_
    simp -dsimp (decide := true) (maxSteps := 1000000) (disch := first | omega | simp (decide := true) only [bdset_a, idc_one, idc_flat, idc_length, cellsI_length, cellsI_flat, prow_length]) only [brun_a, ↓brun_b, envOf, reduceIte, Nat.reduceEqDiff, Nat.reduceAdd, Nat.reduceSub, Nat.reduceMul, Nat.reduceBEq, Nat.reduceLeDiff, Nat.reduceLT, beq_self_eq_true, cond_true, cond_false, Int.reduceToNat, tab.u3, tab.s3, tab.a3, tab.u5, tab.s5, tab.a5, tab.u9, tab.s9, tab.a9, tab.u23, tab.s23, tab.a23, idc_part, idc_length, allocI, splice_idc]
    refine SCond.split (fun h => ?_) (fun h => ?_)
    · have h' : k < l.length := by simp only [decide_eq_true_eq] at h; omega
      have hn : l.drop k = l[k] :: l.drop (k + 1) := List.drop_eq_getElem_cons h'
      rw [hn, pcode] at hc
      have hgd : l.getD k 0 = l[k] := by rw [List.getD_eq_getElem?_getD, List.getElem?_eq_getElem h']; rfl
      rw [← hgd] at hc
      have hlt := (l.getD k 0).toNat_lt
      have hhx : hx l k = hexv ((l.getD k 0).toNat : Int) := rfl
      have hatk := hat k
      have hcr : 0 ≤ ((l.getD k 0).toNat : Int) ∧ ((l.getD k 0).toNat : Int) < 256 := by omega
      generalize ((l.getD k 0).toNat : Int) = c at *
      have hw0 : IntKind.i64.wrap c = c := wrap_i64 _ (by omega)
      simp -dsimp (decide := true) (maxSteps := 1000000) (disch := first | omega | simp (decide := true) only [bdset_a, idc_one, idc_flat, idc_length, cellsI_length, cellsI_flat, prow_length]) only [brun_a, ↓brun_b, envOf, reduceIte, Nat.reduceEqDiff, Nat.reduceAdd, Nat.reduceSub, Nat.reduceMul, Nat.reduceBEq, Nat.reduceLeDiff, Nat.reduceLT, beq_self_eq_true, cond_true, cond_false, Int.reduceToNat, tab.u3, tab.s3, tab.a3, tab.u5, tab.s5, tab.a5, tab.u9, tab.s9, tab.a9, tab.u23, tab.s23, tab.a23, idc_part, idc_length, allocI, splice_idc, hatk, hw0]
      refine And.intro (by omega) ?_
      refine SIf.split (fun a => ?_) (fun a => ?_)
      · have a' : 48 ≤ c := by simpa using a
        simp -dsimp (decide := true) (maxSteps := 1000000) (disch := first | omega | simp (decide := true) only [bdset_a, idc_one, idc_flat, idc_length, cellsI_length, cellsI_flat, prow_length]) only [brun_a, ↓brun_b, envOf, reduceIte, Nat.reduceEqDiff, Nat.reduceAdd, Nat.reduceSub, Nat.reduceMul, Nat.reduceBEq, Nat.reduceLeDiff, Nat.reduceLT, beq_self_eq_true, cond_true, cond_false, Int.reduceToNat, tab.u3, tab.s3, tab.a3, tab.u5, tab.s5, tab.a5, tab.u9, tab.s9, tab.a9, tab.u23, tab.s23, tab.a23, idc_part, idc_length, allocI, splice_idc, a]
        refine SCond.split (fun b => ?_) (fun b => ?_)
        · have b' : c ≤ 57 := by simpa using b
          have e0 : hexb c = true := by simp only [hexb, a, b, Bool.true_and, Bool.true_or]
          have e1 : IntKind.i64.wrap (c - 48) = hexv c := by rw [wrap_i64 _ (by omega), hexv, if_pos ⟨a', b'⟩]
          simp -dsimp (decide := true) (maxSteps := 1000000) (disch := first | omega | simp (decide := true) only [bdset_a, idc_one, idc_flat, idc_length, cellsI_length, cellsI_flat, prow_length]) only [brun_a, ↓brun_b, envOf, reduceIte, Nat.reduceEqDiff, Nat.reduceAdd, Nat.reduceSub, Nat.reduceMul, Nat.reduceBEq, Nat.reduceLeDiff, Nat.reduceLT, beq_self_eq_true, cond_true, cond_false, Int.reduceToNat, tab.u3, tab.s3, tab.a3, tab.u5, tab.s5, tab.a5, tab.u9, tab.s9, tab.a9, tab.u23, tab.s23, tab.a23, idc_part, idc_length, allocI, splice_idc, e1]
          rw [if_neg (by rw [e0]; decide)] at hc
          refine SCond.split (fun h2 => ?_) (fun h2 => ?_)
          · simp only [decide_eq_true_eq] at h2
            rw [if_pos (by omega)] at hc
            simp -dsimp (decide := true) (maxSteps := 1000000) (disch := first | omega | simp (decide := true) only [bdset_a, idc_one, idc_flat, idc_length, cellsI_length, cellsI_flat, prow_length]) only [brun_a, ↓brun_b, envOf, reduceIte, Nat.reduceEqDiff, Nat.reduceAdd, Nat.reduceSub, Nat.reduceMul, Nat.reduceBEq, Nat.reduceLeDiff, Nat.reduceLT, beq_self_eq_true, cond_true, cond_false, Int.reduceToNat, tab.u3, tab.s3, tab.a3, tab.u5, tab.s5, tab.a5, tab.u9, tab.s9, tab.a9, tab.u23, tab.s23, tab.a23, idc_part, idc_length, allocI, splice_idc, hbld]
            refine SQ.answer (rs := [.cell 2 23, .tmp 3]) rfl rfl ?_
            simp -dsimp (decide := true) (maxSteps := 1000000) (disch := first | omega | simp (decide := true) only [bdset_a, idc_one, idc_flat, idc_length, cellsI_length, cellsI_flat, prow_length]) only [brun_a, ↓brun_b, envOf, reduceIte, Nat.reduceEqDiff, Nat.reduceAdd, Nat.reduceSub, Nat.reduceMul, Nat.reduceBEq, Nat.reduceLeDiff, Nat.reduceLT, beq_self_eq_true, cond_true, cond_false, Int.reduceToNat, tab.u3, tab.s3, tab.a3, tab.u5, tab.s5, tab.a5, tab.u9, tab.s9, tab.a9, tab.u23, tab.s23, tab.a23, idc_part, idc_length, allocI, splice_idc, pnum, hc, if_neg (show ¬ ((4 : Int) = 0) by decide), bwk_a, frz1, eq_self, implies_true, rho, ↓reduceIte, forall_const]
          · simp only [decide_eq_false_iff_not] at h2
            have hk' : k < 32 := by omega
            rw [if_neg (by omega)] at hc
            have hq : IntKind.i64.wrap ((k : Int).tdiv 2) = ((k / 2 : Nat) : Int) := by
              rw [Int.tdiv_eq_ediv_of_nonneg (by omega), wrap_i64 _ (by omega)]; omega
            have hcell := prow_cell l k hk'
            obtain ⟨p1, p2⟩ := pbyte_step l k hk'
            have p0 := (pbyte_rng l k (k / 2)).1
            have hv := hx_rng l k
            have hset := prow_step l k hk'
            have hrl : (cellsI (prow l k)).length = 16 := by rw [cellsI_length, prow_length]
            rw [p2, hhx] at hset
            rw [hhx] at hv
            generalize pbyte l k (k / 2) = pb at *
            generalize hexv c = v at *
            have hw2 : IntKind.u8.wrap (pb * 16) = pb * 16 := wrap_u8 _ (by omega)
            have hw3 : IntKind.u8.wrap v = v := wrap_u8 _ (by omega)
            have hw4 : IntKind.u8.wrap (pb * 16 + v) = pb * 16 + v := wrap_u8 _ (by omega)
            have hw5 : IntKind.i64.wrap ((k : Int) + 1) = ((k + 1 : Nat) : Int) := by rw [wrap_i64 _ (by omega)]; rfl
            simp -dsimp (decide := true) (maxSteps := 1000000) (disch := first | omega | simp (decide := true) only [bdset_a, idc_one, idc_flat, idc_length, cellsI_length, cellsI_flat, prow_length]) only [brun_a, ↓brun_b, envOf, reduceIte, Nat.reduceEqDiff, Nat.reduceAdd, Nat.reduceSub, Nat.reduceMul, Nat.reduceBEq, Nat.reduceLeDiff, Nat.reduceLT, beq_self_eq_true, cond_true, cond_false, Int.reduceToNat, tab.u3, tab.s3, tab.a3, tab.u5, tab.s5, tab.a5, tab.u9, tab.s9, tab.a9, tab.u23, tab.s23, tab.a23, idc_part, idc_length, allocI, splice_idc, hq, hcell, hw2, hw3, hw4, hw5, hset]
            refine And.intro (by omega) (And.intro (by omega) ⟨⟨k + 1, by omega, by omega, hc⟩, [0, 1], ?_, by show l.length - (k + 1) < l.length - k; omega⟩)
            (refine Wk.ofC ?_; simp -dsimp (decide := true) (maxSteps := 1000000) (disch := first | omega | simp (decide := true) only [bdset_a, idc_one, idc_flat, idc_length, cellsI_length, cellsI_flat, prow_length]) only [brun_a, ↓brun_b, envOf, reduceIte, Nat.reduceEqDiff, Nat.reduceAdd, Nat.reduceSub, Nat.reduceMul, Nat.reduceBEq, Nat.reduceLeDiff, Nat.reduceLT, beq_self_eq_true, cond_true, cond_false, Int.reduceToNat, tab.u3, tab.s3, tab.a3, tab.u5, tab.s5, tab.a5, tab.u9, tab.s9, tab.a9, tab.u23, tab.s23, tab.a23, idc_part, idc_length, allocI, splice_idc, bwk_a, frz1, eq_self, implies_true, rho, ↓reduceIte, forall_const])
        · have b' : ¬ c ≤ 57 := by simpa using b
          simp -dsimp (decide := true) (maxSteps := 1000000) (disch := first | omega | simp (decide := true) only [bdset_a, idc_one, idc_flat, idc_length, cellsI_length, cellsI_flat, prow_length]) only [brun_a, ↓brun_b, envOf, reduceIte, Nat.reduceEqDiff, Nat.reduceAdd, Nat.reduceSub, Nat.reduceMul, Nat.reduceBEq, Nat.reduceLeDiff, Nat.reduceLT, beq_self_eq_true, cond_true, cond_false, Int.reduceToNat, tab.u3, tab.s3, tab.a3, tab.u5, tab.s5, tab.a5, tab.u9, tab.s9, tab.a9, tab.u23, tab.s23, tab.a23, idc_part, idc_length, allocI, splice_idc]
          refine SIf.split (fun f => ?_) (fun f => ?_)
          · have f' : 97 ≤ c := by simpa using f
            simp -dsimp (decide := true) (maxSteps := 1000000) (disch := first | omega | simp (decide := true) only [bdset_a, idc_one, idc_flat, idc_length, cellsI_length, cellsI_flat, prow_length]) only [brun_a, ↓brun_b, envOf, reduceIte, Nat.reduceEqDiff, Nat.reduceAdd, Nat.reduceSub, Nat.reduceMul, Nat.reduceBEq, Nat.reduceLeDiff, Nat.reduceLT, beq_self_eq_true, cond_true, cond_false, Int.reduceToNat, tab.u3, tab.s3, tab.a3, tab.u5, tab.s5, tab.a5, tab.u9, tab.s9, tab.a9, tab.u23, tab.s23, tab.a23, idc_part, idc_length, allocI, splice_idc, f]
            refine SCond.split (fun g => ?_) (fun g => ?_)
            · have g' : c ≤ 102 := by simpa using g
              have e0 : hexb c = true := by simp only [hexb, a, b, f, g, Bool.true_and, Bool.or_true]
              have e1 : IntKind.i64.wrap (c - 87) = hexv c := by rw [wrap_i64 _ (by omega), hexv, if_neg (by omega), if_pos ⟨f', g'⟩]
              simp -dsimp (decide := true) (maxSteps := 1000000) (disch := first | omega | simp (decide := true) only [bdset_a, idc_one, idc_flat, idc_length, cellsI_length, cellsI_flat, prow_length]) only [brun_a, ↓brun_b, envOf, reduceIte, Nat.reduceEqDiff, Nat.reduceAdd, Nat.reduceSub, Nat.reduceMul, Nat.reduceBEq, Nat.reduceLeDiff, Nat.reduceLT, beq_self_eq_true, cond_true, cond_false, Int.reduceToNat, tab.u3, tab.s3, tab.a3, tab.u5, tab.s5, tab.a5, tab.u9, tab.s9, tab.a9, tab.u23, tab.s23, tab.a23, idc_part, idc_length, allocI, splice_idc, e1]
              rw [if_neg (by rw [e0]; decide)] at hc
              refine SCond.split (fun h2 => ?_) (fun h2 => ?_)
              · simp only [decide_eq_true_eq] at h2
                rw [if_pos (by omega)] at hc
                simp -dsimp (decide := true) (maxSteps := 1000000) (disch := first | omega | simp (decide := true) only [bdset_a, idc_one, idc_flat, idc_length, cellsI_length, cellsI_flat, prow_length]) only [brun_a, ↓brun_b, envOf, reduceIte, Nat.reduceEqDiff, Nat.reduceAdd, Nat.reduceSub, Nat.reduceMul, Nat.reduceBEq, Nat.reduceLeDiff, Nat.reduceLT, beq_self_eq_true, cond_true, cond_false, Int.reduceToNat, tab.u3, tab.s3, tab.a3, tab.u5, tab.s5, tab.a5, tab.u9, tab.s9, tab.a9, tab.u23, tab.s23, tab.a23, idc_part, idc_length, allocI, splice_idc, hbld]
                refine SQ.answer (rs := [.cell 2 23, .tmp 3]) rfl rfl ?_
                simp -dsimp (decide := true) (maxSteps := 1000000) (disch := first | omega | simp (decide := true) only [bdset_a, idc_one, idc_flat, idc_length, cellsI_length, cellsI_flat, prow_length]) only [brun_a, ↓brun_b, envOf, reduceIte, Nat.reduceEqDiff, Nat.reduceAdd, Nat.reduceSub, Nat.reduceMul, Nat.reduceBEq, Nat.reduceLeDiff, Nat.reduceLT, beq_self_eq_true, cond_true, cond_false, Int.reduceToNat, tab.u3, tab.s3, tab.a3, tab.u5, tab.s5, tab.a5, tab.u9, tab.s9, tab.a9, tab.u23, tab.s23, tab.a23, idc_part, idc_length, allocI, splice_idc, pnum, hc, if_neg (show ¬ ((4 : Int) = 0) by decide), bwk_a, frz1, eq_self, implies_true, rho, ↓reduceIte, forall_const]
              · simp only [decide_eq_false_iff_not] at h2
                have hk' : k < 32 := by omega
                rw [if_neg (by omega)] at hc
                have hq : IntKind.i64.wrap ((k : Int).tdiv 2) = ((k / 2 : Nat) : Int) := by
                  rw [Int.tdiv_eq_ediv_of_nonneg (by omega), wrap_i64 _ (by omega)]; omega
                have hcell := prow_cell l k hk'
                obtain ⟨p1, p2⟩ := pbyte_step l k hk'
                have p0 := (pbyte_rng l k (k / 2)).1
                have hv := hx_rng l k
                have hset := prow_step l k hk'
                have hrl : (cellsI (prow l k)).length = 16 := by rw [cellsI_length, prow_length]
                rw [p2, hhx] at hset
                rw [hhx] at hv
                generalize pbyte l k (k / 2) = pb at *
                generalize hexv c = v at *
                have hw2 : IntKind.u8.wrap (pb * 16) = pb * 16 := wrap_u8 _ (by omega)
                have hw3 : IntKind.u8.wrap v = v := wrap_u8 _ (by omega)
                have hw4 : IntKind.u8.wrap (pb * 16 + v) = pb * 16 + v := wrap_u8 _ (by omega)
                have hw5 : IntKind.i64.wrap ((k : Int) + 1) = ((k + 1 : Nat) : Int) := by rw [wrap_i64 _ (by omega)]; rfl
                simp -dsimp (decide := true) (maxSteps := 1000000) (disch := first | omega | simp (decide := true) only [bdset_a, idc_one, idc_flat, idc_length, cellsI_length, cellsI_flat, prow_length]) only [brun_a, ↓brun_b, envOf, reduceIte, Nat.reduceEqDiff, Nat.reduceAdd, Nat.reduceSub, Nat.reduceMul, Nat.reduceBEq, Nat.reduceLeDiff, Nat.reduceLT, beq_self_eq_true, cond_true, cond_false, Int.reduceToNat, tab.u3, tab.s3, tab.a3, tab.u5, tab.s5, tab.a5, tab.u9, tab.s9, tab.a9, tab.u23, tab.s23, tab.a23, idc_part, idc_length, allocI, splice_idc, hq, hcell, hw2, hw3, hw4, hw5, hset]
                refine And.intro (by omega) (And.intro (by omega) ⟨⟨k + 1, by omega, by omega, hc⟩, [0, 1], ?_, by show l.length - (k + 1) < l.length - k; omega⟩)
                (refine Wk.ofC ?_; simp -dsimp (decide := true) (maxSteps := 1000000) (disch := first | omega | simp (decide := true) only [bdset_a, idc_one, idc_flat, idc_length, cellsI_length, cellsI_flat, prow_length]) only [brun_a, ↓brun_b, envOf, reduceIte, Nat.reduceEqDiff, Nat.reduceAdd, Nat.reduceSub, Nat.reduceMul, Nat.reduceBEq, Nat.reduceLeDiff, Nat.reduceLT, beq_self_eq_true, cond_true, cond_false, Int.reduceToNat, tab.u3, tab.s3, tab.a3, tab.u5, tab.s5, tab.a5, tab.u9, tab.s9, tab.a9, tab.u23, tab.s23, tab.a23, idc_part, idc_length, allocI, splice_idc, bwk_a, frz1, eq_self, implies_true, rho, ↓reduceIte, forall_const])
            · have e0 : hexb c = false := by simp only [hexb, a, b, f, g, Bool.and_false, Bool.or_false]
              rw [if_pos e0] at hc
              simp -dsimp (decide := true) (maxSteps := 1000000) (disch := first | omega | simp (decide := true) only [bdset_a, idc_one, idc_flat, idc_length, cellsI_length, cellsI_flat, prow_length]) only [brun_a, ↓brun_b, envOf, reduceIte, Nat.reduceEqDiff, Nat.reduceAdd, Nat.reduceSub, Nat.reduceMul, Nat.reduceBEq, Nat.reduceLeDiff, Nat.reduceLT, beq_self_eq_true, cond_true, cond_false, Int.reduceToNat, tab.u3, tab.s3, tab.a3, tab.u5, tab.s5, tab.a5, tab.u9, tab.s9, tab.a9, tab.u23, tab.s23, tab.a23, idc_part, idc_length, allocI, splice_idc, hbld]
              refine SQ.answer (rs := [.cell 2 23, .tmp 3]) rfl rfl ?_
              simp -dsimp (decide := true) (maxSteps := 1000000) (disch := first | omega | simp (decide := true) only [bdset_a, idc_one, idc_flat, idc_length, cellsI_length, cellsI_flat, prow_length]) only [brun_a, ↓brun_b, envOf, reduceIte, Nat.reduceEqDiff, Nat.reduceAdd, Nat.reduceSub, Nat.reduceMul, Nat.reduceBEq, Nat.reduceLeDiff, Nat.reduceLT, beq_self_eq_true, cond_true, cond_false, Int.reduceToNat, tab.u3, tab.s3, tab.a3, tab.u5, tab.s5, tab.a5, tab.u9, tab.s9, tab.a9, tab.u23, tab.s23, tab.a23, idc_part, idc_length, allocI, splice_idc, pnum, hc, if_neg (show ¬ ((2 : Int) = 0) by decide), bwk_a, frz1, eq_self, implies_true, rho, ↓reduceIte, forall_const]
          · have e0 : hexb c = false := by simp only [hexb, a, b, f, Bool.and_false, Bool.false_and, Bool.or_false]
            rw [if_pos e0] at hc
            simp -dsimp (decide := true) (maxSteps := 1000000) (disch := first | omega | simp (decide := true) only [bdset_a, idc_one, idc_flat, idc_length, cellsI_length, cellsI_flat, prow_length]) only [brun_a, ↓brun_b, envOf, reduceIte, Nat.reduceEqDiff, Nat.reduceAdd, Nat.reduceSub, Nat.reduceMul, Nat.reduceBEq, Nat.reduceLeDiff, Nat.reduceLT, beq_self_eq_true, cond_true, cond_false, Int.reduceToNat, tab.u3, tab.s3, tab.a3, tab.u5, tab.s5, tab.a5, tab.u9, tab.s9, tab.a9, tab.u23, tab.s23, tab.a23, idc_part, idc_length, allocI, splice_idc, hbld, f]
            refine SQ.answer (rs := [.cell 2 23, .tmp 3]) rfl rfl ?_
            simp -dsimp (decide := true) (maxSteps := 1000000) (disch := first | omega | simp (decide := true) only [bdset_a, idc_one, idc_flat, idc_length, cellsI_length, cellsI_flat, prow_length]) only [brun_a, ↓brun_b, envOf, reduceIte, Nat.reduceEqDiff, Nat.reduceAdd, Nat.reduceSub, Nat.reduceMul, Nat.reduceBEq, Nat.reduceLeDiff, Nat.reduceLT, beq_self_eq_true, cond_true, cond_false, Int.reduceToNat, tab.u3, tab.s3, tab.a3, tab.u5, tab.s5, tab.a5, tab.u9, tab.s9, tab.a9, tab.u23, tab.s23, tab.a23, idc_part, idc_length, allocI, splice_idc, pnum, hc, if_neg (show ¬ ((2 : Int) = 0) by decide), bwk_a, frz1, eq_self, implies_true, rho, ↓reduceIte, forall_const]
      · have f : decide (97 ≤ c) = false := decide_eq_false (by simp only [decide_eq_false_iff_not] at a; omega)
        have e0 : hexb c = false := by simp only [hexb, a, f, Bool.false_and, Bool.or_false]
        rw [if_pos e0] at hc
        simp -dsimp (decide := true) (maxSteps := 1000000) (disch := first | omega | simp (decide := true) only [bdset_a, idc_one, idc_flat, idc_length, cellsI_length, cellsI_flat, prow_length]) only [brun_a, ↓brun_b, envOf, reduceIte, Nat.reduceEqDiff, Nat.reduceAdd, Nat.reduceSub, Nat.reduceMul, Nat.reduceBEq, Nat.reduceLeDiff, Nat.reduceLT, beq_self_eq_true, cond_true, cond_false, Int.reduceToNat, tab.u3, tab.s3, tab.a3, tab.u5, tab.s5, tab.a5, tab.u9, tab.s9, tab.a9, tab.u23, tab.s23, tab.a23, idc_part, idc_length, allocI, splice_idc, hbld, a, f]
        refine SQ.answer (rs := [.cell 2 23, .tmp 3]) rfl rfl ?_
        simp -dsimp (decide := true) (maxSteps := 1000000) (disch := first | omega | simp (decide := true) only [bdset_a, idc_one, idc_flat, idc_length, cellsI_length, cellsI_flat, prow_length]) only [brun_a, ↓brun_b, envOf, reduceIte, Nat.reduceEqDiff, Nat.reduceAdd, Nat.reduceSub, Nat.reduceMul, Nat.reduceBEq, Nat.reduceLeDiff, Nat.reduceLT, beq_self_eq_true, cond_true, cond_false, Int.reduceToNat, tab.u3, tab.s3, tab.a3, tab.u5, tab.s5, tab.a5, tab.u9, tab.s9, tab.a9, tab.u23, tab.s23, tab.a23, idc_part, idc_length, allocI, splice_idc, pnum, hc, if_neg (show ¬ ((2 : Int) = 0) by decide), bwk_a, frz1, eq_self, implies_true, rho, ↓reduceIte, forall_const]
    · simp only [decide_eq_false_iff_not] at h
      have hkl' : k = l.length := by omega
      rw [hkl', List.drop_length, pcode] at hc
      simp -dsimp (decide := true) (maxSteps := 1000000) (disch := first | omega | simp (decide := true) only [bdset_a, idc_one, idc_flat, idc_length, cellsI_length, cellsI_flat, prow_length]) only [brun_a, ↓brun_b, envOf, reduceIte, Nat.reduceEqDiff, Nat.reduceAdd, Nat.reduceSub, Nat.reduceMul, Nat.reduceBEq, Nat.reduceLeDiff, Nat.reduceLT, beq_self_eq_true, cond_true, cond_false, Int.reduceToNat, tab.u3, tab.s3, tab.a3, tab.u5, tab.s5, tab.a5, tab.u9, tab.s9, tab.a9, tab.u23, tab.s23, tab.a23, idc_part, idc_length, allocI, splice_idc]
      refine SCond.split (fun h1 => ?_) (fun h1 => ?_)
      · simp only [decide_eq_true_eq] at h1
        rw [if_pos (by omega)] at hc
        simp -dsimp (decide := true) (maxSteps := 1000000) (disch := first | omega | simp (decide := true) only [bdset_a, idc_one, idc_flat, idc_length, cellsI_length, cellsI_flat, prow_length]) only [brun_a, ↓brun_b, envOf, reduceIte, Nat.reduceEqDiff, Nat.reduceAdd, Nat.reduceSub, Nat.reduceMul, Nat.reduceBEq, Nat.reduceLeDiff, Nat.reduceLT, beq_self_eq_true, cond_true, cond_false, Int.reduceToNat, tab.u3, tab.s3, tab.a3, tab.u5, tab.s5, tab.a5, tab.u9, tab.s9, tab.a9, tab.u23, tab.s23, tab.a23, idc_part, idc_length, allocI, splice_idc, hbld]
        refine SQ.answer (rs := [.cell 2 23, .tmp 3]) rfl rfl ?_
        simp -dsimp (decide := true) (maxSteps := 1000000) (disch := first | omega | simp (decide := true) only [bdset_a, idc_one, idc_flat, idc_length, cellsI_length, cellsI_flat, prow_length]) only [brun_a, ↓brun_b, envOf, reduceIte, Nat.reduceEqDiff, Nat.reduceAdd, Nat.reduceSub, Nat.reduceMul, Nat.reduceBEq, Nat.reduceLeDiff, Nat.reduceLT, beq_self_eq_true, cond_true, cond_false, Int.reduceToNat, tab.u3, tab.s3, tab.a3, tab.u5, tab.s5, tab.a5, tab.u9, tab.s9, tab.a9, tab.u23, tab.s23, tab.a23, idc_part, idc_length, allocI, splice_idc, pnum, hc, if_neg (show ¬ ((3 : Int) = 0) by decide), bwk_a, frz1, eq_self, implies_true, rho, ↓reduceIte, forall_const]
      · simp only [decide_eq_false_iff_not] at h1
        rw [if_neg (by omega)] at hc
        obtain rfl : k = 32 := by omega
        simp -dsimp (decide := true) (maxSteps := 1000000) (disch := first | omega | simp (decide := true) only [bdset_a, idc_one, idc_flat, idc_length, cellsI_length, cellsI_flat, prow_length]) only [brun_a, ↓brun_b, envOf, reduceIte, Nat.reduceEqDiff, Nat.reduceAdd, Nat.reduceSub, Nat.reduceMul, Nat.reduceBEq, Nat.reduceLeDiff, Nat.reduceLT, beq_self_eq_true, cond_true, cond_false, Int.reduceToNat, tab.u3, tab.s3, tab.a3, tab.u5, tab.s5, tab.a5, tab.u9, tab.s9, tab.a9, tab.u23, tab.s23, tab.a23, idc_part, idc_length, allocI, splice_idc, prow_idc]
        refine SQ.answer (rs := [.cell 2 23, .tmp 3]) rfl rfl ?_
        simp -dsimp (decide := true) (maxSteps := 1000000) (disch := first | omega | simp (decide := true) only [bdset_a, idc_one, idc_flat, idc_length, cellsI_length, cellsI_flat, prow_length]) only [brun_a, ↓brun_b, envOf, reduceIte, Nat.reduceEqDiff, Nat.reduceAdd, Nat.reduceSub, Nat.reduceMul, Nat.reduceBEq, Nat.reduceLeDiff, Nat.reduceLT, beq_self_eq_true, cond_true, cond_false, Int.reduceToNat, tab.u3, tab.s3, tab.a3, tab.u5, tab.s5, tab.a5, tab.u9, tab.s9, tab.a9, tab.u23, tab.s23, tab.a23, idc_part, idc_length, allocI, splice_idc, pnum, hc, if_pos (show (0 : Int) = 0 from rfl), bwk_a, frz1, eq_self, implies_true, rho, ↓reduceIte, forall_const]
end Go.Proofs
