/- IdentBack, IdentOne, told of values. -/
import Derived.Test.YtheodenjjaoncaaIdJ
set_option linter.unusedVariables false
set_option linter.unusedSimpArgs false
namespace Go.SL
open Go
set_option maxRecDepth 100000
theorem hexb_hd (x : Int) (h : 0 ≤ x ∧ x < 16) : hexb ((hd x).toNat : Int) = true ∧ hexv ((hd x).toNat : Int) = x := by
  have : ∀ i : Fin 16, hexb ((hd (i.val : Int)).toNat : Int) = true ∧ hexv ((hd (i.val : Int)).toNat : Int) = (i.val : Int) := by decide
  have := this ⟨x.toNat, by omega⟩
  rwa [Int.toNat_of_nonneg h.1] at this
theorem hd_hexv (c : UInt8) (h : hexb (c.toNat : Int) = true) : hd (hexv (c.toNat : Int)) = c := by
  have : ∀ i : Fin 256, hexb ((i.val : Nat) : Int) = true → hd (hexv ((i.val : Nat) : Int)) = UInt8.ofNat i.val := by decide
  have h2 := this ⟨c.toNat, c.toNat_lt⟩ h
  rw [h2]
  exact UInt8.ofNat_toNat
/-- A text without an error: just 32 digits. -/
theorem pcode_zero : ∀ (l : List UInt8) (k : Nat), k ≤ 32 → (pcode l k = 0 ↔ k + l.length = 32 ∧ ∀ c ∈ l, hexb (c.toNat : Int) = true)
  | [], k, hk => by
    rw [pcode]
    simp only [List.length_nil, List.not_mem_nil, false_implies, implies_true, and_true, Nat.add_zero]
    split <;> omega
  | c :: r, k, hk => by
    rw [pcode]
    have := pcode_zero r (k + 1)
    by_cases h1 : hexb (c.toNat : Int) = false
    · rw [if_pos h1]
      constructor
      · intro h; omega
      · intro h
        have := h.2 c (by simp)
        rw [h1] at this
        exact absurd this (by decide)
    · rw [if_neg h1]
      by_cases h2 : 32 ≤ k
      · rw [if_pos h2]
        constructor
        · intro h; omega
        · intro h
          have := h.1
          simp only [List.length_cons] at this
          omega
      · rw [if_neg h2, this (by omega)]
        simp only [List.length_cons, List.forall_mem_cons]
        have h3 : hexb (c.toNat : Int) = true := by simpa using h1
        constructor
        · intro ⟨a, b⟩; exact ⟨by omega, h3, b⟩
        · intro ⟨a, _, b⟩; exact ⟨by omega, b⟩
theorem ptext_get (n : Int) : ∀ (k i : Nat), i < k → (ptext n k)[2 * i]? = some (hd (byt n i / 16)) ∧ (ptext n k)[2 * i + 1]? = some (hd (byt n i % 16))
  | 0, _, h => absurd h (by omega)
  | k + 1, i, h => by
    have hl := ptext_length n k
    rw [ptext_succ]
    by_cases hi : i < k
    · have := ptext_get n k i hi
      rw [List.getElem?_append_left (by omega), List.getElem?_append_left (by omega)]
      exact this
    · obtain rfl : i = k := by omega
      rw [List.getElem?_append_right (by omega), List.getElem?_append_right (by omega), hl, Nat.sub_self, Nat.add_sub_cancel_left]
      exact ⟨rfl, rfl⟩
theorem ptext_hex (n : Int) (k : Nat) : ∀ c ∈ ptext n k, hexb (c.toNat : Int) = true := by
  intro c hc
  obtain ⟨i, _, h⟩ := List.mem_flatMap.1 hc
  have hb := byt_rng n i
  simp only [List.mem_cons, List.not_mem_nil, or_false] at h
  rcases h with rfl | rfl
  · exact (hexb_hd _ (by omega)).1
  · exact (hexb_hd _ (by omega)).1
theorem dig_byt (n : Int) : dig 16 n = (List.range 16).map (byt n) := by
  apply List.ext_getElem
  · rw [dig_length]; simp
  · intro i h1 h2
    have h3 := dig_getD 16 n i (by rw [dig_length] at h1; exact h1)
    rw [List.getD_eq_getElem?_getD, List.getElem?_eq_getElem h1] at h3
    simp only [List.getElem_map, List.getElem_range]
    exact h3
/-- What is written is read. -/
theorem back_one (n : Int) : pcode (ptext n 16) 0 = 0 ∧ idc (pnum (ptext n 16)) = idc n := by
  have h0 : pcode (ptext n 16) 0 = 0 := (pcode_zero _ 0 (by omega)).2 ⟨by rw [ptext_length], ptext_hex n 16⟩
  refine ⟨h0, ?_⟩
  rw [pnum, if_pos h0, ← prow_idc, ← cellsI_idc, dig_byt, prow]
  congr 1
  apply List.map_congr_left
  intro j hj
  have hj' : j < 16 := List.mem_range.1 hj
  obtain ⟨g1, g2⟩ := ptext_get n 16 j hj'
  have hb := byt_rng n j
  rw [pbyte, if_pos (by omega), hx, hx, List.getD_eq_getElem?_getD, List.getD_eq_getElem?_getD, g1, g2]
  simp only [Option.getD_some]
  rw [(hexb_hd _ (by omega)).2, (hexb_hd _ (by omega)).2]
  omega
/-- What is read is written. -/
theorem back_two (l : List UInt8) (h : pcode l 0 = 0) : ptext (pnum l) 16 = l := by
  obtain ⟨h1, h2⟩ := (pcode_zero l 0 (by omega)).1 h
  have hd : ∀ j, j < 16 → byt (pnum l) j = hx l (2 * j) * 16 + hx l (2 * j + 1) := fun j hj => by
    have e := dig_byt (num (prow l 32))
    have e2 := dig_num (prow l 32) (prow_rng l 32)
    rw [prow_length] at e2
    rw [e2] at e
    have e4 : (prow l 32)[j]? = some (pbyte l 32 j) := by rw [prow, List.getElem?_map, List.getElem?_range hj]; rfl
    have e5 : ((List.range 16).map (byt (num (prow l 32))))[j]? = some (byt (num (prow l 32)) j) := by rw [List.getElem?_map, List.getElem?_range hj]; rfl
    rw [← e, e4] at e5
    have e6 := Option.some.inj e5
    rw [pnum, if_pos h, ← e6, pbyte, if_pos (by omega)]
  apply List.ext_getElem?
  intro i
  by_cases hi : i < 32
  · obtain ⟨g1, g2⟩ := ptext_get (pnum l) 16 (i / 2) (by omega)
    have hdj := hd (i / 2) (by omega)
    have r1 := hx_rng l (2 * (i / 2))
    have r2 := hx_rng l (2 * (i / 2) + 1)
    have q1 : byt (pnum l) (i / 2) / 16 = hx l (2 * (i / 2)) := by omega
    have q2 : byt (pnum l) (i / 2) % 16 = hx l (2 * (i / 2) + 1) := by omega
    have hget : l[i]? = some (l[i]'(by omega)) := List.getElem?_eq_getElem _
    have hgd : l.getD i 0 = l[i]'(by omega) := by rw [List.getD_eq_getElem?_getD, hget]; rfl
    have hm := hd_hexv (l[i]'(by omega)) (h2 _ (List.getElem_mem _))
    rcases Nat.mod_two_eq_zero_or_one i with hp | hp
    · have e : 2 * (i / 2) = i := by omega
      rw [e] at g1 q1
      rw [g1, q1, hget, hx, hgd, hm]
    · have e : 2 * (i / 2) + 1 = i := by omega
      rw [e] at g2 q2
      rw [g2, q2, hget, hx, hgd, hm]
  · rw [List.getElem?_eq_none (by rw [ptext_length]; omega), List.getElem?_eq_none (by omega)]
end Go.SL
namespace Go.Proofs
open Go Go.SL
set_option maxRecDepth 100000
theorem back_calls (a : Int) (s : ByteArray) (hs : s.size < 4611686018427387904) : Pure Try.prog 23 [.agg (idc a), .v (.string s)] (.v (.bool true)) := by
  obtain ⟨b1, b2⟩ := back_one a
  have b3 := back_two s.data.toList
  have hz : (⟨(ptext a 16).toArray⟩ : ByteArray).size = 32 := by
    show (ptext a 16).toArray.size = _
    rw [List.size_toArray, ptext_length]
  have hp := parse_calls ⟨(ptext a 16).toArray⟩ (by omega)
  simp only [b1, b2] at hp
  refine SCall.mk (fn := Try.f23) (by kernel_rfl) rfl (Nat.le_of_ble_eq_true (by kernel_rfl)) ?_
  refine Sem.go (k := 1000) ?_
  simp -dsimp (decide := true) (maxSteps := 1000000) (disch := first | omega | simp (decide := true) only [bdset_a, idc_one, idc_flat, idc_length, irows_flat, irows_length]) only [brun_a, ↓brun_b, envOf, reduceIte, Nat.reduceEqDiff, Nat.reduceAdd, Nat.reduceSub, Nat.reduceMul, Nat.reduceBEq, Nat.reduceLeDiff, Nat.reduceLT, beq_self_eq_true, cond_true, cond_false, Int.reduceToNat, tab.u5, tab.s5, tab.a5, tab.u9, tab.s9, tab.a9, tab.u23, tab.s23, tab.a23, tab.u37, tab.s37, tab.a37, idc_part, idc_length, allocI, splice_idc, irows_length, irows_getD]
  refine SemOps.callq (k := 1000) cal.f88 (print_calls _) rfl rfl rfl rfl (by simp only [bflat_a, idc_flat, irows_flat]) (by simp only [bflat_a, idc_flat, irows_flat]) (by simp -dsimp (decide := true) (maxSteps := 1000000) (disch := first | omega | simp (decide := true) only [bdset_a, idc_one, idc_flat, idc_length, irows_flat, irows_length]) only [brun_a, ↓brun_b, envOf, reduceIte, Nat.reduceEqDiff, Nat.reduceAdd, Nat.reduceSub, Nat.reduceMul, Nat.reduceBEq, Nat.reduceLeDiff, Nat.reduceLT, beq_self_eq_true, cond_true, cond_false, Int.reduceToNat, tab.u5, tab.s5, tab.a5, tab.u9, tab.s9, tab.a9, tab.u23, tab.s23, tab.a23, tab.u37, tab.s37, tab.a37]) ?_
  simp -dsimp (decide := true) (maxSteps := 1000000) (disch := first | omega | simp (decide := true) only [bdset_a, idc_one, idc_flat, idc_length, irows_flat, irows_length]) only [brun_a, ↓brun_b, envOf, reduceIte, Nat.reduceEqDiff, Nat.reduceAdd, Nat.reduceSub, Nat.reduceMul, Nat.reduceBEq, Nat.reduceLeDiff, Nat.reduceLT, beq_self_eq_true, cond_true, cond_false, Int.reduceToNat, tab.u5, tab.s5, tab.a5, tab.u9, tab.s9, tab.a9, tab.u23, tab.s23, tab.a23, tab.u37, tab.s37, tab.a37, idc_part, idc_length, allocI, splice_idc, irows_length, irows_getD]
  refine SemOps.callq (k := 1000) cal.f86 (hp) rfl rfl rfl rfl (by simp only [bflat_a, idc_flat, irows_flat]) (by simp only [bflat_a, idc_flat, irows_flat]) (by simp -dsimp (decide := true) (maxSteps := 1000000) (disch := first | omega | simp (decide := true) only [bdset_a, idc_one, idc_flat, idc_length, irows_flat, irows_length]) only [brun_a, ↓brun_b, envOf, reduceIte, Nat.reduceEqDiff, Nat.reduceAdd, Nat.reduceSub, Nat.reduceMul, Nat.reduceBEq, Nat.reduceLeDiff, Nat.reduceLT, beq_self_eq_true, cond_true, cond_false, Int.reduceToNat, tab.u5, tab.s5, tab.a5, tab.u9, tab.s9, tab.a9, tab.u23, tab.s23, tab.a23, tab.u37, tab.s37, tab.a37]) ?_
  simp -dsimp (decide := true) (maxSteps := 1000000) (disch := first | omega | simp (decide := true) only [bdset_a, idc_one, idc_flat, idc_length, irows_flat, irows_length]) only [brun_a, ↓brun_b, envOf, reduceIte, Nat.reduceEqDiff, Nat.reduceAdd, Nat.reduceSub, Nat.reduceMul, Nat.reduceBEq, Nat.reduceLeDiff, Nat.reduceLT, beq_self_eq_true, cond_true, cond_false, Int.reduceToNat, tab.u5, tab.s5, tab.a5, tab.u9, tab.s9, tab.a9, tab.u23, tab.s23, tab.a23, tab.u37, tab.s37, tab.a37, idc_part, idc_length, allocI, splice_idc, irows_length, irows_getD]
  refine SemOps.callq (k := 1000) cal.f86 (parse_calls s hs) rfl rfl rfl rfl (by simp only [bflat_a, idc_flat, irows_flat]) (by simp only [bflat_a, idc_flat, irows_flat]) (by simp -dsimp (decide := true) (maxSteps := 1000000) (disch := first | omega | simp (decide := true) only [bdset_a, idc_one, idc_flat, idc_length, irows_flat, irows_length]) only [brun_a, ↓brun_b, envOf, reduceIte, Nat.reduceEqDiff, Nat.reduceAdd, Nat.reduceSub, Nat.reduceMul, Nat.reduceBEq, Nat.reduceLeDiff, Nat.reduceLT, beq_self_eq_true, cond_true, cond_false, Int.reduceToNat, tab.u5, tab.s5, tab.a5, tab.u9, tab.s9, tab.a9, tab.u23, tab.s23, tab.a23, tab.u37, tab.s37, tab.a37]) ?_
  simp -dsimp (decide := true) (maxSteps := 1000000) (disch := first | omega | simp (decide := true) only [bdset_a, idc_one, idc_flat, idc_length, irows_flat, irows_length]) only [brun_a, ↓brun_b, envOf, reduceIte, Nat.reduceEqDiff, Nat.reduceAdd, Nat.reduceSub, Nat.reduceMul, Nat.reduceBEq, Nat.reduceLeDiff, Nat.reduceLT, beq_self_eq_true, cond_true, cond_false, Int.reduceToNat, tab.u5, tab.s5, tab.a5, tab.u9, tab.s9, tab.a9, tab.u23, tab.s23, tab.a23, tab.u37, tab.s37, tab.a37, idc_part, idc_length, allocI, splice_idc, irows_length, irows_getD]
  refine SemOps.callq (k := 1000) cal.f71 (fixed1_calls) rfl rfl rfl rfl (by simp only [bflat_a, idc_flat, irows_flat]) (by simp only [bflat_a, idc_flat, irows_flat]) (by simp -dsimp (decide := true) (maxSteps := 1000000) (disch := first | omega | simp (decide := true) only [bdset_a, idc_one, idc_flat, idc_length, irows_flat, irows_length]) only [brun_a, ↓brun_b, envOf, reduceIte, Nat.reduceEqDiff, Nat.reduceAdd, Nat.reduceSub, Nat.reduceMul, Nat.reduceBEq, Nat.reduceLeDiff, Nat.reduceLT, beq_self_eq_true, cond_true, cond_false, Int.reduceToNat, tab.u5, tab.s5, tab.a5, tab.u9, tab.s9, tab.a9, tab.u23, tab.s23, tab.a23, tab.u37, tab.s37, tab.a37]) ?_
  simp -dsimp (decide := true) (maxSteps := 1000000) (disch := first | omega | simp (decide := true) only [bdset_a, idc_one, idc_flat, idc_length, irows_flat, irows_length]) only [brun_a, ↓brun_b, envOf, reduceIte, Nat.reduceEqDiff, Nat.reduceAdd, Nat.reduceSub, Nat.reduceMul, Nat.reduceBEq, Nat.reduceLeDiff, Nat.reduceLT, beq_self_eq_true, cond_true, cond_false, Int.reduceToNat, tab.u5, tab.s5, tab.a5, tab.u9, tab.s9, tab.a9, tab.u23, tab.s23, tab.a23, tab.u37, tab.s37, tab.a37, idc_part, idc_length, allocI, splice_idc, irows_length, irows_getD, sBin_agg .eql 23 _ _ _ (idc_cellsEq _ _)]
  refine And.intro (idc_flatEq _ _) ?_
  refine SIf.split (fun h => ?_) (fun h => ?_)
  · have h' : pcode s.data.toList 0 = 0 := by simpa using h
    have hst : (⟨(ptext (pnum s.data.toList) 16).toArray⟩ : ByteArray) = s := by rw [b3 h']
    simp -dsimp (decide := true) (maxSteps := 1000000) (disch := first | omega | simp (decide := true) only [bdset_a, idc_one, idc_flat, idc_length, irows_flat, irows_length]) only [brun_a, ↓brun_b, envOf, reduceIte, Nat.reduceEqDiff, Nat.reduceAdd, Nat.reduceSub, Nat.reduceMul, Nat.reduceBEq, Nat.reduceLeDiff, Nat.reduceLT, beq_self_eq_true, cond_true, cond_false, Int.reduceToNat, tab.u5, tab.s5, tab.a5, tab.u9, tab.s9, tab.a9, tab.u23, tab.s23, tab.a23, tab.u37, tab.s37, tab.a37, idc_part, idc_length, allocI, splice_idc, irows_length, irows_getD, h]
    refine SemOps.callq (k := 1000) cal.f88 (print_calls _) rfl rfl rfl rfl (by simp only [bflat_a, idc_flat, irows_flat]) (by simp only [bflat_a, idc_flat, irows_flat]) (by simp -dsimp (decide := true) (maxSteps := 1000000) (disch := first | omega | simp (decide := true) only [bdset_a, idc_one, idc_flat, idc_length, irows_flat, irows_length]) only [brun_a, ↓brun_b, envOf, reduceIte, Nat.reduceEqDiff, Nat.reduceAdd, Nat.reduceSub, Nat.reduceMul, Nat.reduceBEq, Nat.reduceLeDiff, Nat.reduceLT, beq_self_eq_true, cond_true, cond_false, Int.reduceToNat, tab.u5, tab.s5, tab.a5, tab.u9, tab.s9, tab.a9, tab.u23, tab.s23, tab.a23, tab.u37, tab.s37, tab.a37]) ?_
    simp -dsimp (decide := true) (maxSteps := 1000000) (disch := first | omega | simp (decide := true) only [bdset_a, idc_one, idc_flat, idc_length, irows_flat, irows_length]) only [brun_a, ↓brun_b, envOf, reduceIte, Nat.reduceEqDiff, Nat.reduceAdd, Nat.reduceSub, Nat.reduceMul, Nat.reduceBEq, Nat.reduceLeDiff, Nat.reduceLT, beq_self_eq_true, cond_true, cond_false, Int.reduceToNat, tab.u5, tab.s5, tab.a5, tab.u9, tab.s9, tab.a9, tab.u23, tab.s23, tab.a23, tab.u37, tab.s37, tab.a37, idc_part, idc_length, allocI, splice_idc, irows_length, irows_getD, h, hst]
    refine SQ.answer (rs := [.tmp 4]) rfl rfl ?_
    simp -dsimp (decide := true) (maxSteps := 1000000) (disch := first | omega | simp (decide := true) only [bdset_a, idc_one, idc_flat, idc_length, irows_flat, irows_length]) only [brun_a, ↓brun_b, envOf, reduceIte, Nat.reduceEqDiff, Nat.reduceAdd, Nat.reduceSub, Nat.reduceMul, Nat.reduceBEq, Nat.reduceLeDiff, Nat.reduceLT, beq_self_eq_true, cond_true, cond_false, Int.reduceToNat, tab.u5, tab.s5, tab.a5, tab.u9, tab.s9, tab.a9, tab.u23, tab.s23, tab.a23, tab.u37, tab.s37, tab.a37, bwk_a, frz1, eq_self, implies_true, rho, ↓reduceIte, forall_const]
  · simp -dsimp (decide := true) (maxSteps := 1000000) (disch := first | omega | simp (decide := true) only [bdset_a, idc_one, idc_flat, idc_length, irows_flat, irows_length]) only [brun_a, ↓brun_b, envOf, reduceIte, Nat.reduceEqDiff, Nat.reduceAdd, Nat.reduceSub, Nat.reduceMul, Nat.reduceBEq, Nat.reduceLeDiff, Nat.reduceLT, beq_self_eq_true, cond_true, cond_false, Int.reduceToNat, tab.u5, tab.s5, tab.a5, tab.u9, tab.s9, tab.a9, tab.u23, tab.s23, tab.a23, tab.u37, tab.s37, tab.a37, idc_part, idc_length, allocI, splice_idc, irows_length, irows_getD, h]
    refine SQ.answer (rs := [.tmp 4]) rfl rfl ?_
    simp -dsimp (decide := true) (maxSteps := 1000000) (disch := first | omega | simp (decide := true) only [bdset_a, idc_one, idc_flat, idc_length, irows_flat, irows_length]) only [brun_a, ↓brun_b, envOf, reduceIte, Nat.reduceEqDiff, Nat.reduceAdd, Nat.reduceSub, Nat.reduceMul, Nat.reduceBEq, Nat.reduceLeDiff, Nat.reduceLT, beq_self_eq_true, cond_true, cond_false, Int.reduceToNat, tab.u5, tab.s5, tab.a5, tab.u9, tab.s9, tab.a9, tab.u23, tab.s23, tab.a23, tab.u37, tab.s37, tab.a37, bwk_a, frz1, eq_self, implies_true, rho, ↓reduceIte, forall_const]
theorem identBack_law (l0 l1 : List SV) (h0 : ClsC Try.prog 20 23 l0) (h1 : ClsC Try.prog 20 9 l1) : Pure Try.prog 23 [.agg l0, cellAt l1 0] (.v (.bool true)) := by
  obtain ⟨b, rfl, _⟩ := cls_idc h0
  obtain ⟨s, rfl, hs⟩ := cls_str h1
  exact back_calls b s (by simp only [reachBytes] at hs; omega)
end Go.Proofs
