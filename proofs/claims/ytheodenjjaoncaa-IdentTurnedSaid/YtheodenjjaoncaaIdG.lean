/- Writing identities: ident.Print and the document's. -/
import Derived.Test.YtheodenjjaoncaaIdF
import Derived.Test.YtheodenjjaoncaaWireC
set_option linter.unusedVariables false
set_option linter.unusedSimpArgs false
namespace Go.SL
open Go
set_option maxRecDepth 100000
/-- The byte at a place of an identity. -/
def byt (n : Int) (i : Nat) : Int := n / 256 ^ (15 - i) % 256
theorem byt_rng (n : Int) (i : Nat) : 0 ≤ byt n i ∧ byt n i < 256 := by unfold byt; omega
theorem idc_at (n : Int) (i : Nat) (h : i < 16) : cellAt (idc n) i = .v (.int .u8 (byt n i)) := by
  have := idc_cell n (15 - i) (by omega)
  rwa [show 15 - (15 - i) = i by omega] at this
/-- A digit's letter. -/
def hd (x : Int) : UInt8 := if x < 10 then UInt8.ofNat (48 + x.toNat) else UInt8.ofNat (87 + x.toNat)
def hexS : ByteArray := ⟨#[48, 49, 50, 51, 52, 53, 54, 55, 56, 57, 97, 98, 99, 100, 101, 102]⟩
theorem hexS_at (x : Int) (h : 0 ≤ x ∧ x < 16) : strAt hexS x.toNat = ((hd x).toNat : Int) := by
  have : ∀ i : Fin 16, strAt hexS (i.val : Int).toNat = ((hd (i.val : Int)).toNat : Int) := by decide
  have := this ⟨x.toNat, by omega⟩
  rwa [Int.toNat_of_nonneg h.1] at this
theorem and_u8 (c : Int) (h : 0 ≤ c ∧ c < 256) : ibits .and .u8 c 15 = c % 16 := by
  have : ∀ i : Fin 256, ibits .and .u8 (i.val : Int) 15 = (i.val : Int) % 16 := by decide
  have := this ⟨c.toNat, by omega⟩
  rwa [Int.toNat_of_nonneg h.1] at this
/-- What is written of the first bytes. -/
def ptext (n : Int) (k : Nat) : List UInt8 := (List.range k).flatMap fun i => [hd (byt n i / 16), hd (byt n i % 16)]
theorem ptext_zero (n : Int) : ptext n 0 = [] := Eq.trans rfl rfl
theorem ptext_succ (n : Int) (k : Nat) : ptext n (k + 1) = ptext n k ++ [hd (byt n k / 16), hd (byt n k % 16)] := by
  simp [ptext, List.range_succ]
theorem ptext_length (n : Int) (k : Nat) : (ptext n k).length = 2 * k := by
  induction k with
  | zero => rfl
  | succ k ih => rw [ptext_succ, List.length_append, ih]; simp; omega
end Go.SL
namespace Go.Proofs
open Go Go.SL
set_option maxRecDepth 100000
theorem bs35_2 (N : Nat) (x y : UInt8) : sBuildSlice Try.prog N 35 2 [(0, .v (.int .u8 (x.toNat : Int))), (1, .v (.int .u8 (y.toNat : Int)))] = some ⟨.slc N 0 2, ⟨none, some (.row ⟨1, 2, true, 5, fun e => ((bcells [x, y]).drop (e * 1)).take 1⟩)⟩, True⟩ := by kernel_rfl
theorem print_calls (n : Int) : Pure Try.prog 88 [.agg (idc n)] (.v (.string ⟨(ptext n 16).toArray⟩)) := by
  refine SCall.mk (fn := Try.f88) (by kernel_rfl) rfl (Nat.le_of_ble_eq_true (by kernel_rfl)) ?_
  refine Sem.go (k := 1000) ?_
  simp -dsimp (decide := true) (maxSteps := 1000000) (disch := first | omega | simp (decide := true) only [bdset_a, idc_one, idc_flat, idc_length, brow_len, brow_flat]) only [brun_a, ↓brun_b, envOf, reduceIte, Nat.reduceEqDiff, Nat.reduceAdd, Nat.reduceSub, Nat.reduceMul, Nat.reduceBEq, Nat.reduceLeDiff, Nat.reduceLT, beq_self_eq_true, cond_true, cond_false, Int.reduceToNat, tab.u3, tab.s3, tab.a3, tab.u5, tab.s5, tab.a5, tab.u9, tab.s9, tab.a9, tab.u23, tab.s23, tab.a23, tab.u35, tab.s35, tab.a35, idc_part, idc_length, allocI, splice_idc, brow_len, brow_cell]
  refine Sem.ghost 3 1 5 rfl ?_
  refine Sem.loop (ι := {k : Nat // k ≤ 16}) (fun k => ⟨22, 0, [(6, .agg (idc n)), (7, .v (.int .i64 (k.1 : Int))), (3, .slc 0 0 (ptext n k.1).length)], [some (.row ⟨1, (ptext n k.1).length, true, 5, brow (ptext n k.1)⟩)]⟩) (fun k => 16 - k.1) ⟨0, by omega⟩ [1] ?_ ?_
  · (refine Wk.ofC ?_; simp -dsimp (decide := true) (maxSteps := 1000000) (disch := first | omega | simp (decide := true) only [bdset_a, idc_one, idc_flat, idc_length, brow_len, brow_flat]) only [brun_a, ↓brun_b, envOf, reduceIte, Nat.reduceEqDiff, Nat.reduceAdd, Nat.reduceSub, Nat.reduceMul, Nat.reduceBEq, Nat.reduceLeDiff, Nat.reduceLT, beq_self_eq_true, cond_true, cond_false, Int.reduceToNat, tab.u3, tab.s3, tab.a3, tab.u5, tab.s5, tab.a5, tab.u9, tab.s9, tab.a9, tab.u23, tab.s23, tab.a23, tab.u35, tab.s35, tab.a35, idc_part, idc_length, allocI, splice_idc, brow_len, brow_cell, ptext_zero, bwk_a, frz1, eq_self, implies_true, rho, ↓reduceIte, forall_const])
  · rintro ⟨k, hk⟩
    refine Sem.go (k := 1000) ?_
    simp -dsimp (decide := true) (maxSteps := 1000000) (disch := first | omega | simp (decide := true) only [bdset_a, idc_one, idc_flat, idc_length, brow_len, brow_flat]) only [brun_a, ↓brun_b, envOf, reduceIte, Nat.reduceEqDiff, Nat.reduceAdd, Nat.reduceSub, Nat.reduceMul, Nat.reduceBEq, Nat.reduceLeDiff, Nat.reduceLT, beq_self_eq_true, cond_true, cond_false, Int.reduceToNat, tab.u3, tab.s3, tab.a3, tab.u5, tab.s5, tab.a5, tab.u9, tab.s9, tab.a9, tab.u23, tab.s23, tab.a23, tab.u35, tab.s35, tab.a35, idc_part, idc_length, allocI, splice_idc, brow_len, brow_cell]
    refine SCond.split (fun h => ?_) (fun h => ?_)
    · simp only [decide_eq_true_eq] at h
      have hk' : k < 16 := by omega
      have hat := idc_at n k hk'
      simp -dsimp (decide := true) (maxSteps := 1000000) (disch := first | omega | simp (decide := true) only [bdset_a, idc_one, idc_flat, idc_length, brow_len, brow_flat]) only [brun_a, ↓brun_b, envOf, reduceIte, Nat.reduceEqDiff, Nat.reduceAdd, Nat.reduceSub, Nat.reduceMul, Nat.reduceBEq, Nat.reduceLeDiff, Nat.reduceLT, beq_self_eq_true, cond_true, cond_false, Int.reduceToNat, tab.u3, tab.s3, tab.a3, tab.u5, tab.s5, tab.a5, tab.u9, tab.s9, tab.a9, tab.u23, tab.s23, tab.a23, tab.u35, tab.s35, tab.a35, idc_part, idc_length, allocI, splice_idc, brow_len, brow_cell, hat]
      have hbr := byt_rng n k
      refine And.intro (by omega) ?_
      have hlen : (ptext n (k + 1)).length = (ptext n k).length + 2 := by rw [ptext_length, ptext_length]; omega
      have hl2 := ptext_length n k
      have hsuc := ptext_succ n k
      generalize byt n k = c at *
      have hand := and_u8 c hbr
      have hx1 : strAt ⟨#[48, 49, 50, 51, 52, 53, 54, 55, 56, 57, 97, 98, 99, 100, 101, 102]⟩ (c / 16).toNat = ((hd (c / 16)).toNat : Int) := hexS_at (c / 16) (by omega)
      have hx2 : strAt ⟨#[48, 49, 50, 51, 52, 53, 54, 55, 56, 57, 97, 98, 99, 100, 101, 102]⟩ (c % 16).toNat = ((hd (c % 16)).toNat : Int) := hexS_at (c % 16) (by omega)
      have hfd : c.fdiv (2 ^ min 4 IntKind.u8.bits) = c / 16 := by
        have : min 4 IntKind.u8.bits = 4 := by decide
        rw [this, Int.fdiv_eq_ediv_of_nonneg _ (by omega)]
        rfl
      have hw5 : IntKind.i64.wrap ((k : Int) + 1) = ((k + 1 : Nat) : Int) := by rw [wrap_i64 _ (by omega)]; rfl
      refine Sem.draw' (by kernel_rfl) (.one 0 (.one 1 (.one 2 (.one 3 (.one 4 (.one 5 (.one 6 (.alt 7 (.alt 8 (.one 9 .done) .non) .non)))))))) [0] (by kernel_rfl) (fun G ff hG hf => ?_)
      simp (decide := true) only [roL_in, roL_row, roL_nil, roL_none, ro_mk, Nat.zero_add, Nat.reduceAdd, List.length_cons, List.length_nil] at hG ⊢
      simp -dsimp (decide := true) (maxSteps := 1000000) (disch := first | omega | simp (decide := true) only [bdset_a, idc_one, idc_flat, idc_length, brow_len, brow_flat]) only [brun_a, ↓brun_b, envOf, reduceIte, Nat.reduceEqDiff, Nat.reduceAdd, Nat.reduceSub, Nat.reduceMul, Nat.reduceBEq, Nat.reduceLeDiff, Nat.reduceLT, beq_self_eq_true, cond_true, cond_false, Int.reduceToNat, tab.u3, tab.s3, tab.a3, tab.u5, tab.s5, tab.a5, tab.u9, tab.s9, tab.a9, tab.u23, tab.s23, tab.a23, tab.u35, tab.s35, tab.a35, idc_part, idc_length, allocI, splice_idc, brow_len, brow_cell, hG, hand, hfd, hx1, hx2, bs35_2, sapp1_sl el5]
      refine And.intro (show _ by exact ⟨by omega, by show c / 16 < 16; omega⟩) (And.intro ⟨by omega, by show c % 16 < 16; omega⟩ ?_)
      refine And.intro (by omega) ?_
      refine hf _ (Sem.go (k := 1000) ?_)
      simp (decide := true) only [back_mk, backL_in, backL_row, backL_none, backL_nil, Nat.zero_add, Nat.reduceAdd]
      simp -dsimp (decide := true) (maxSteps := 1000000) (disch := first | omega | simp (decide := true) only [bdset_a, idc_one, idc_flat, idc_length, brow_len, brow_flat]) only [brun_a, ↓brun_b, envOf, reduceIte, Nat.reduceEqDiff, Nat.reduceAdd, Nat.reduceSub, Nat.reduceMul, Nat.reduceBEq, Nat.reduceLeDiff, Nat.reduceLT, beq_self_eq_true, cond_true, cond_false, Int.reduceToNat, tab.u3, tab.s3, tab.a3, tab.u5, tab.s5, tab.a5, tab.u9, tab.s9, tab.a9, tab.u23, tab.s23, tab.a23, tab.u35, tab.s35, tab.a35, idc_part, idc_length, allocI, splice_idc, brow_len, brow_cell, hw5]
      refine ⟨⟨k + 1, by omega⟩, [2], ?_, by show 16 - (k + 1) < 16 - k; omega⟩
      (refine Wk.ofC ?_; simp -dsimp (decide := true) (maxSteps := 1000000) (disch := first | omega | simp (decide := true) only [bdset_a, idc_one, idc_flat, idc_length, brow_len, brow_flat]) only [brun_a, ↓brun_b, envOf, reduceIte, Nat.reduceEqDiff, Nat.reduceAdd, Nat.reduceSub, Nat.reduceMul, Nat.reduceBEq, Nat.reduceLeDiff, Nat.reduceLT, beq_self_eq_true, cond_true, cond_false, Int.reduceToNat, tab.u3, tab.s3, tab.a3, tab.u5, tab.s5, tab.a5, tab.u9, tab.s9, tab.a9, tab.u23, tab.s23, tab.a23, tab.u35, tab.s35, tab.a35, idc_part, idc_length, allocI, splice_idc, brow_len, brow_cell, hlen, bwk_a, frz1, eq_self, implies_true, rho, ↓reduceIte, forall_const])
      intro e he
      rw [hsuc]
      refine ent_brow_app (g := fun i => List.take 1 (List.drop i (bcells [hd (c / 16), hd (c % 16)]))) rfl (fun i hi => ?_) he
      have hz := bcells_at [hd (c / 16), hd (c % 16)] i hi
      rwa [Nat.zero_add] at hz
    · simp only [decide_eq_false_iff_not] at h
      obtain rfl : k = 16 := by omega
      simp -dsimp (decide := true) (maxSteps := 1000000) (disch := first | omega | simp (decide := true) only [bdset_a, idc_one, idc_flat, idc_length, brow_len, brow_flat]) only [brun_a, ↓brun_b, envOf, reduceIte, Nat.reduceEqDiff, Nat.reduceAdd, Nat.reduceSub, Nat.reduceMul, Nat.reduceBEq, Nat.reduceLeDiff, Nat.reduceLT, beq_self_eq_true, cond_true, cond_false, Int.reduceToNat, tab.u3, tab.s3, tab.a3, tab.u5, tab.s5, tab.a5, tab.u9, tab.s9, tab.a9, tab.u23, tab.s23, tab.a23, tab.u35, tab.s35, tab.a35, idc_part, idc_length, allocI, splice_idc, brow_len, brow_cell]
      obtain ⟨y1, y2⟩ := bytesOfRow_eq (ptext n 16).length true 5 (brow (ptext n 16)) 0 (ptext n 16).length (ptext n 16) rfl (fun i hi => by rw [Nat.zero_add]; rfl)
      refine And.intro ⟨Nat.le_refl _, y2⟩ ?_
      rw [y1]
      refine SQ.answer (rs := [.tmp 2]) rfl rfl ?_
      simp -dsimp (decide := true) (maxSteps := 1000000) (disch := first | omega | simp (decide := true) only [bdset_a, idc_one, idc_flat, idc_length, brow_len, brow_flat]) only [brun_a, ↓brun_b, envOf, reduceIte, Nat.reduceEqDiff, Nat.reduceAdd, Nat.reduceSub, Nat.reduceMul, Nat.reduceBEq, Nat.reduceLeDiff, Nat.reduceLT, beq_self_eq_true, cond_true, cond_false, Int.reduceToNat, tab.u3, tab.s3, tab.a3, tab.u5, tab.s5, tab.a5, tab.u9, tab.s9, tab.a9, tab.u23, tab.s23, tab.a23, tab.u35, tab.s35, tab.a35, bwk_a, frz1, eq_self, implies_true, rho, ↓reduceIte, forall_const]
theorem ba_app (a b : List UInt8) : (⟨a.toArray⟩ ++ ⟨b.toArray⟩ : ByteArray) = ⟨(a ++ b).toArray⟩ := by
  apply ByteArray.ext
  simp
theorem hex_cut (c : Int) (h : 0 ≤ c ∧ c < 16) : hexS.extract c.toNat (c + 1).toNat = ⟨[hd c].toArray⟩ := by
  have : ∀ i : Fin 16, hexS.extract (i.val : Int).toNat ((i.val : Int) + 1).toNat = ⟨[hd (i.val : Int)].toArray⟩ := by decide
  have := this ⟨c.toNat, by omega⟩
  rwa [Int.toNat_of_nonneg h.1] at this
theorem refPrint_calls (n : Int) : Pure Try.prog 89 [.agg (idc n)] (.v (.string ⟨(ptext n 16).toArray⟩)) := by
  refine SCall.mk (fn := Try.f89) (by kernel_rfl) rfl (Nat.le_of_ble_eq_true (by kernel_rfl)) ?_
  refine Sem.go (k := 1000) ?_
  simp -dsimp (decide := true) (maxSteps := 1000000) (disch := first | omega | simp (decide := true) only [bdset_a, idc_one, idc_flat, idc_length, brow_len, brow_flat]) only [brun_a, ↓brun_b, envOf, reduceIte, Nat.reduceEqDiff, Nat.reduceAdd, Nat.reduceSub, Nat.reduceMul, Nat.reduceBEq, Nat.reduceLeDiff, Nat.reduceLT, beq_self_eq_true, cond_true, cond_false, Int.reduceToNat, tab.u3, tab.s3, tab.a3, tab.u5, tab.s5, tab.a5, tab.u9, tab.s9, tab.a9, tab.u23, tab.s23, tab.a23, idc_part, idc_length, allocI, splice_idc, brow_len, brow_cell]
  refine Sem.loop (ι := {k : Nat // k ≤ 16}) (fun k => ⟨36, 0, [(1, .ptr 0 0 0), (3, .v (.string hexS)), (4, .v (.string ⟨(ptext n k.1).toArray⟩)), (5, .v (.int .i64 (k.1 : Int)))], [some (.row ⟨16, 1, true, 23, fun _ => idc n⟩)]⟩) (fun k => 16 - k.1) ⟨0, by omega⟩ [0] ?_ ?_
  · (refine Wk.ofC ?_; simp -dsimp (decide := true) (maxSteps := 1000000) (disch := first | omega | simp (decide := true) only [bdset_a, idc_one, idc_flat, idc_length, brow_len, brow_flat]) only [brun_a, ↓brun_b, envOf, reduceIte, Nat.reduceEqDiff, Nat.reduceAdd, Nat.reduceSub, Nat.reduceMul, Nat.reduceBEq, Nat.reduceLeDiff, Nat.reduceLT, beq_self_eq_true, cond_true, cond_false, Int.reduceToNat, tab.u3, tab.s3, tab.a3, tab.u5, tab.s5, tab.a5, tab.u9, tab.s9, tab.a9, tab.u23, tab.s23, tab.a23, idc_part, idc_length, allocI, splice_idc, brow_len, brow_cell, ptext_zero, hexS, bwk_a, frz1, eq_self, implies_true, rho, ↓reduceIte, forall_const])
  · rintro ⟨k, hk⟩
    refine Sem.go (k := 1000) ?_
    simp -dsimp (decide := true) (maxSteps := 1000000) (disch := first | omega | simp (decide := true) only [bdset_a, idc_one, idc_flat, idc_length, brow_len, brow_flat]) only [brun_a, ↓brun_b, envOf, reduceIte, Nat.reduceEqDiff, Nat.reduceAdd, Nat.reduceSub, Nat.reduceMul, Nat.reduceBEq, Nat.reduceLeDiff, Nat.reduceLT, beq_self_eq_true, cond_true, cond_false, Int.reduceToNat, tab.u3, tab.s3, tab.a3, tab.u5, tab.s5, tab.a5, tab.u9, tab.s9, tab.a9, tab.u23, tab.s23, tab.a23, idc_part, idc_length, allocI, splice_idc, brow_len, brow_cell]
    refine SCond.split (fun h => ?_) (fun h => ?_)
    · simp only [decide_eq_true_eq] at h
      have hk' : k < 16 := by omega
      have hat := idc_at n k hk'
      simp -dsimp (decide := true) (maxSteps := 1000000) (disch := first | omega | simp (decide := true) only [bdset_a, idc_one, idc_flat, idc_length, brow_len, brow_flat]) only [brun_a, ↓brun_b, envOf, reduceIte, Nat.reduceEqDiff, Nat.reduceAdd, Nat.reduceSub, Nat.reduceMul, Nat.reduceBEq, Nat.reduceLeDiff, Nat.reduceLT, beq_self_eq_true, cond_true, cond_false, Int.reduceToNat, tab.u3, tab.s3, tab.a3, tab.u5, tab.s5, tab.a5, tab.u9, tab.s9, tab.a9, tab.u23, tab.s23, tab.a23, idc_part, idc_length, allocI, splice_idc, brow_len, brow_cell]
      have hbr := byt_rng n k
      have hl2 := ptext_length n k
      have hsuc := ptext_succ n k
      generalize byt n k = c at *
      have q1 : c.tdiv 16 = c / 16 := Int.tdiv_eq_ediv_of_nonneg hbr.1
      have q2 : c.tmod 16 = c % 16 := Int.tmod_eq_emod_of_nonneg hbr.1
      have q3 : IntKind.u8.wrap (c / 16) = c / 16 := wrap_u8 _ (by omega)
      have q4 : IntKind.u8.wrap (c / 16 + 1) = c / 16 + 1 := wrap_u8 _ (by omega)
      have q5 : IntKind.u8.wrap (c % 16 + 1) = c % 16 + 1 := wrap_u8 _ (by omega)
      have c1 := hex_cut (c / 16) (by omega)
      have c2 := hex_cut (c % 16) (by omega)
      have hw5 : IntKind.i64.wrap ((k : Int) + 1) = ((k + 1 : Nat) : Int) := by rw [wrap_i64 _ (by omega)]; rfl
      refine Sem.draw' (by kernel_rfl) (.one 0 (.one 1 (.one 2 (.one 3 (.one 4 (.one 5 (.one 6 (.one 7 (.one 8 (.one 9 (.one 10 (.one 11 (.one 12 (.one 13 (.one 14 (.one 15 (.one 16 (.one 17 (.one 18 (.one 19 (.one 20 (.one 21 (.one 22 (.one 23 (.one 24 (.one 25 .done)))))))))))))))))))))))))) [] (by kernel_rfl) (fun G ff hG hf => ?_)
      simp (decide := true) only [roL_in, roL_row, roL_nil, roL_none, ro_mk, Nat.zero_add, Nat.reduceAdd, List.length_cons, List.length_nil] at hG ⊢
      simp -dsimp (decide := true) (maxSteps := 1000000) (disch := first | omega | simp (decide := true) only [bdset_a, idc_one, idc_flat, idc_length, brow_len, brow_flat]) only [brun_a, ↓brun_b, envOf, reduceIte, Nat.reduceEqDiff, Nat.reduceAdd, Nat.reduceSub, Nat.reduceMul, Nat.reduceBEq, Nat.reduceLeDiff, Nat.reduceLT, beq_self_eq_true, cond_true, cond_false, Int.reduceToNat, tab.u3, tab.s3, tab.a3, tab.u5, tab.s5, tab.a5, tab.u9, tab.s9, tab.a9, tab.u23, tab.s23, tab.a23, idc_part, idc_length, allocI, splice_idc, brow_len, brow_cell, hG, hat, q1, q2, q3, q4, q5, c1, c2]
      have hs2 : (⟨#[hd (c / 16)]⟩ ++ ⟨#[hd (c % 16)]⟩ : ByteArray) = ⟨[hd (c / 16), hd (c % 16)].toArray⟩ := ba_app [_] [_]
      have hs3 : (⟨(ptext n k).toArray⟩ ++ ⟨[hd (c / 16), hd (c % 16)].toArray⟩ : ByteArray) = ⟨(ptext n (k + 1)).toArray⟩ := by rw [ba_app, hsuc]
      rw [hs2, hs3]
      have hz1 : (⟨(ptext n k).toArray⟩ : ByteArray).size = 2 * k := by
        show (ptext n k).toArray.size = _
        rw [List.size_toArray, hl2]
      have hz2 : (⟨[hd (c / 16), hd (c % 16)].toArray⟩ : ByteArray).size = 2 := rfl
      have hz3 : hexS.size = 16 := rfl
      have hz4 : (⟨#[hd (c / 16)]⟩ : ByteArray).size = 1 := rfl
      have hz5 : (⟨#[hd (c % 16)]⟩ : ByteArray).size = 1 := rfl
      rw [hz1, hz2, hz3, hz4, hz5]
      refine ⟨by omega, by omega, by omega, by omega, by omega, by omega, by omega, by omega, ?_⟩
      refine hf _ (Sem.go (k := 1000) ?_)
      simp (decide := true) only [back_mk, backL_in, backL_row, backL_none, backL_nil, Nat.zero_add, Nat.reduceAdd]
      simp -dsimp (decide := true) (maxSteps := 1000000) (disch := first | omega | simp (decide := true) only [bdset_a, idc_one, idc_flat, idc_length, brow_len, brow_flat]) only [brun_a, ↓brun_b, envOf, reduceIte, Nat.reduceEqDiff, Nat.reduceAdd, Nat.reduceSub, Nat.reduceMul, Nat.reduceBEq, Nat.reduceLeDiff, Nat.reduceLT, beq_self_eq_true, cond_true, cond_false, Int.reduceToNat, tab.u3, tab.s3, tab.a3, tab.u5, tab.s5, tab.a5, tab.u9, tab.s9, tab.a9, tab.u23, tab.s23, tab.a23, idc_part, idc_length, allocI, splice_idc, brow_len, brow_cell, hw5]
      refine ⟨⟨k + 1, by omega⟩, [0], ?_, by show 16 - (k + 1) < 16 - k; omega⟩
      (refine Wk.ofC ?_; simp -dsimp (decide := true) (maxSteps := 1000000) (disch := first | omega | simp (decide := true) only [bdset_a, idc_one, idc_flat, idc_length, brow_len, brow_flat]) only [brun_a, ↓brun_b, envOf, reduceIte, Nat.reduceEqDiff, Nat.reduceAdd, Nat.reduceSub, Nat.reduceMul, Nat.reduceBEq, Nat.reduceLeDiff, Nat.reduceLT, beq_self_eq_true, cond_true, cond_false, Int.reduceToNat, tab.u3, tab.s3, tab.a3, tab.u5, tab.s5, tab.a5, tab.u9, tab.s9, tab.a9, tab.u23, tab.s23, tab.a23, idc_part, idc_length, allocI, splice_idc, brow_len, brow_cell, bwk_a, frz1, eq_self, implies_true, rho, ↓reduceIte, forall_const])
    · simp only [decide_eq_false_iff_not] at h
      obtain rfl : k = 16 := by omega
      simp -dsimp (decide := true) (maxSteps := 1000000) (disch := first | omega | simp (decide := true) only [bdset_a, idc_one, idc_flat, idc_length, brow_len, brow_flat]) only [brun_a, ↓brun_b, envOf, reduceIte, Nat.reduceEqDiff, Nat.reduceAdd, Nat.reduceSub, Nat.reduceMul, Nat.reduceBEq, Nat.reduceLeDiff, Nat.reduceLT, beq_self_eq_true, cond_true, cond_false, Int.reduceToNat, tab.u3, tab.s3, tab.a3, tab.u5, tab.s5, tab.a5, tab.u9, tab.s9, tab.a9, tab.u23, tab.s23, tab.a23, idc_part, idc_length, allocI, splice_idc, brow_len, brow_cell]
      refine SQ.answer (rs := [.tmp 2]) rfl rfl ?_
      simp -dsimp (decide := true) (maxSteps := 1000000) (disch := first | omega | simp (decide := true) only [bdset_a, idc_one, idc_flat, idc_length, brow_len, brow_flat]) only [brun_a, ↓brun_b, envOf, reduceIte, Nat.reduceEqDiff, Nat.reduceAdd, Nat.reduceSub, Nat.reduceMul, Nat.reduceBEq, Nat.reduceLeDiff, Nat.reduceLT, beq_self_eq_true, cond_true, cond_false, Int.reduceToNat, tab.u3, tab.s3, tab.a3, tab.u5, tab.s5, tab.a5, tab.u9, tab.s9, tab.a9, tab.u23, tab.s23, tab.a23, bwk_a, frz1, eq_self, implies_true, rho, ↓reduceIte, forall_const]
end Go.Proofs
