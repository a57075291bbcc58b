/- Numbers read out of bytes: what wire.GetNum answers, of any bytes that fit, at any place. -/
import Derived.Test.YtheodenjjaoncaaWireA
set_option linter.unusedVariables false
set_option linter.unusedSimpArgs false
namespace Go.SL
open Go
/-- The number that bytes are, the highest first. -/
def numB (l : List UInt8) : Nat := l.foldl (fun h x => h * 256 + x.toNat) 0
theorem numB_snoc (l : List UInt8) (x : UInt8) : numB (l ++ [x]) = numB l * 256 + x.toNat := by simp [numB]
theorem numB_lt (l : List UInt8) : numB l < 256 ^ l.length := by
  have : ∀ (n : Nat) (l : List UInt8), l.length = n → numB l < 256 ^ n := by
    intro n
    induction n with
    | zero => intro l hl; rw [List.length_eq_zero_iff] at hl; subst hl; simp [numB]
    | succ n ih =>
      intro l hl
      obtain ⟨x, r, hx⟩ : ∃ x r, l = r ++ [x] := by
        rcases List.eq_nil_or_concat l with h | ⟨r, x, h⟩
        · subst h; simp at hl
        · exact ⟨x, r, by simpa using h⟩
      subst hx
      have h1 := ih r (by simpa using hl)
      have h2 := x.toNat_lt
      rw [numB_snoc, Nat.pow_succ]
      omega
  exact this l.length l rfl
theorem numB_take (l : List UInt8) (k : Nat) (h : k < l.length) : numB (l.take (k + 1)) = numB (l.take k) * 256 + (l.getD k 0).toNat := by
  rw [List.take_add_one, List.getElem?_eq_getElem h, Option.toList_some, numB_snoc, List.getD_eq_getElem?_getD, List.getElem?_eq_getElem h]
  rfl
theorem pow256_le (a b : Nat) (h : a ≤ b) : 256 ^ a ≤ 256 ^ b := Nat.pow_le_pow_right (by omega) h
theorem or_u64 (h x : Nat) (hh : h < 256 ^ 7) (hx : x < 256) : ibits .or .u64 ((h * 256 : Nat) : Int) (x : Int) = ((h * 256 + x : Nat) : Int) := by
  have hb : IntKind.u64.bits = 64 := rfl
  have e1 : ∀ (m : Nat), m < 2 ^ 64 → (BitVec.ofInt IntKind.u64.bits (m : Int)).toNat = m := by
    intro m hm
    show (BitVec.ofInt 64 (m : Int)).toNat = m
    rw [BitVec.toNat_ofInt]
    omega
  unfold ibits
  simp only []
  rw [BitVec.toNat_or, e1 _ (by omega), e1 _ (by omega)]
  have e2 : h * 256 ||| x = h * 256 + x := by
    have := Nat.two_pow_add_eq_or_of_lt (i := 8) (b := x) (by omega) h
    rw [Nat.mul_comm h 256]
    exact this.symm
  rw [e2]
  exact wrap_u64 _ (by omega)
/-- What is read as a number at a place. -/
def getNum (l : List UInt8) (p : Int) : Nat × Int × Int :=
  if p < 0 ∨ (l.length : Int) < p then (0, 0, 1) else if p = l.length then (0, 0, 3) else
    let c := (l.getD p.toNat 0).toNat
    if 8 < c then (0, 0, 2) else if l.length < p.toNat + 1 + c then (0, 0, 3) else if 0 < c ∧ (l.getD (p.toNat + 1) 0).toNat = 0 then (0, 0, 2)
    else (numB ((l.drop (p.toNat + 1)).take c), p + 1 + c, 0)
def nres (r : Nat × Int × Int) : SV := .tup [.v (.int .u64 (r.1 : Int)), .v (.int .i64 r.2.1), .v (.int .i64 r.2.2)]
end Go.SL
namespace Go.Proofs
open Go Go.SL
set_option maxRecDepth 100000
/-- Is there a number? -/
def numOk (l : List UInt8) (p : Int) : Prop := 0 ≤ p ∧ p < l.length ∧ (l.getD p.toNat 0).toNat ≤ 8 ∧ p.toNat + 1 + (l.getD p.toNat 0).toNat ≤ l.length ∧ ¬ (0 < (l.getD p.toNat 0).toNat ∧ (l.getD (p.toNat + 1) 0).toNat = 0)
theorem getNum_calls (l : List UInt8) (p : Int) (hl : l.length < 4611686018427387904) (hp : -9223372036854775808 ≤ p ∧ p < 9223372036854775808) : Pure Try.prog 42 [bsl l, .v (.int .i64 p)] (nres (getNum l p)) := by
  have hg : getNum l p = getNum l p := rfl
  conv at hg => rhs; unfold getNum
  refine SCall.mk (fn := Try.f42) (by kernel_rfl) rfl (Nat.le_of_ble_eq_true (by kernel_rfl)) ?_
  refine Sem.go (k := 3) ?_
  simp -dsimp (decide := true) (maxSteps := 1000000) (disch := first | omega | simp (decide := true) only [bdset_a, urows.flat, urows_length, brow_len, urow_len, brow_flat]) only [brun_a, ↓brun_b, envOf, reduceIte, Nat.reduceEqDiff, Nat.reduceAdd, Nat.reduceSub, Nat.reduceMul, Nat.reduceBEq, Nat.reduceLeDiff, Nat.reduceLT, beq_self_eq_true, cond_true, cond_false, Int.reduceToNat, tab.u3, tab.s3, tab.a3, tab.u5, tab.s5, tab.a5, tab.u35, tab.s35, tab.a35, tab.u36, tab.s36, tab.a36, brow_len, brow_cell, brows_at, urows_length, urows_at, urow_cell, urow_len]
  refine Sem.cutJ [_] (fun s' => numOk l p ∧ ∃ l', Wk l' s' ⟨85, 0, [(0, bsl l), (1, .v (.int .i64 p))], []⟩) ?_ ?_
  · refine Sem.go (k := 1000) ?_
    simp -dsimp (decide := true) (maxSteps := 1000000) (disch := first | omega | simp (decide := true) only [bdset_a, urows.flat, urows_length, brow_len, urow_len, brow_flat]) only [brun_a, ↓brun_b, envOf, reduceIte, Nat.reduceEqDiff, Nat.reduceAdd, Nat.reduceSub, Nat.reduceMul, Nat.reduceBEq, Nat.reduceLeDiff, Nat.reduceLT, beq_self_eq_true, cond_true, cond_false, Int.reduceToNat, tab.u3, tab.s3, tab.a3, tab.u5, tab.s5, tab.a5, tab.u35, tab.s35, tab.a35, tab.u36, tab.s36, tab.a36, brow_len, brow_cell, brows_at, urows_length, urows_at, urow_cell, urow_len]
    refine SIf.split (fun h1 => ?_) (fun h1 => ?_)
    · simp -dsimp (decide := true) (maxSteps := 1000000) (disch := first | omega | simp (decide := true) only [bdset_a, urows.flat, urows_length, brow_len, urow_len, brow_flat]) only [brun_a, ↓brun_b, envOf, reduceIte, Nat.reduceEqDiff, Nat.reduceAdd, Nat.reduceSub, Nat.reduceMul, Nat.reduceBEq, Nat.reduceLeDiff, Nat.reduceLT, beq_self_eq_true, cond_true, cond_false, Int.reduceToNat, tab.u3, tab.s3, tab.a3, tab.u5, tab.s5, tab.a5, tab.u35, tab.s35, tab.a35, tab.u36, tab.s36, tab.a36, brow_len, brow_cell, brows_at, urows_length, urows_at, urow_cell, urow_len, h1]
      simp only [decide_eq_true_eq] at h1
      rw [if_pos (.inl h1)] at hg
      rw [hg]
      refine SQ.answer (rs := [.tmp 4, .tmp 5, .tmp 6]) rfl rfl ?_
      simp -dsimp (decide := true) (maxSteps := 1000000) (disch := first | omega | simp (decide := true) only [bdset_a, urows.flat, urows_length, brow_len, urow_len, brow_flat]) only [brun_a, ↓brun_b, envOf, reduceIte, Nat.reduceEqDiff, Nat.reduceAdd, Nat.reduceSub, Nat.reduceMul, Nat.reduceBEq, Nat.reduceLeDiff, Nat.reduceLT, beq_self_eq_true, cond_true, cond_false, Int.reduceToNat, tab.u3, tab.s3, tab.a3, tab.u5, tab.s5, tab.a5, tab.u35, tab.s35, tab.a35, tab.u36, tab.s36, tab.a36, nres, bwk_a, frz1, eq_self, implies_true, rho, ↓reduceIte, forall_const]
    · simp -dsimp (decide := true) (maxSteps := 1000000) (disch := first | omega | simp (decide := true) only [bdset_a, urows.flat, urows_length, brow_len, urow_len, brow_flat]) only [brun_a, ↓brun_b, envOf, reduceIte, Nat.reduceEqDiff, Nat.reduceAdd, Nat.reduceSub, Nat.reduceMul, Nat.reduceBEq, Nat.reduceLeDiff, Nat.reduceLT, beq_self_eq_true, cond_true, cond_false, Int.reduceToNat, tab.u3, tab.s3, tab.a3, tab.u5, tab.s5, tab.a5, tab.u35, tab.s35, tab.a35, tab.u36, tab.s36, tab.a36, brow_len, brow_cell, brows_at, urows_length, urows_at, urow_cell, urow_len, h1]
      simp only [decide_eq_false_iff_not] at h1
      refine SCond.split (fun h2 => ?_) (fun h2 => ?_)
      · simp -dsimp (decide := true) (maxSteps := 1000000) (disch := first | omega | simp (decide := true) only [bdset_a, urows.flat, urows_length, brow_len, urow_len, brow_flat]) only [brun_a, ↓brun_b, envOf, reduceIte, Nat.reduceEqDiff, Nat.reduceAdd, Nat.reduceSub, Nat.reduceMul, Nat.reduceBEq, Nat.reduceLeDiff, Nat.reduceLT, beq_self_eq_true, cond_true, cond_false, Int.reduceToNat, tab.u3, tab.s3, tab.a3, tab.u5, tab.s5, tab.a5, tab.u35, tab.s35, tab.a35, tab.u36, tab.s36, tab.a36, brow_len, brow_cell, brows_at, urows_length, urows_at, urow_cell, urow_len]
        simp only [decide_eq_true_eq] at h2
        rw [if_pos (.inr h2)] at hg
        rw [hg]
        refine SQ.answer (rs := [.tmp 4, .tmp 5, .tmp 6]) rfl rfl ?_
        simp -dsimp (decide := true) (maxSteps := 1000000) (disch := first | omega | simp (decide := true) only [bdset_a, urows.flat, urows_length, brow_len, urow_len, brow_flat]) only [brun_a, ↓brun_b, envOf, reduceIte, Nat.reduceEqDiff, Nat.reduceAdd, Nat.reduceSub, Nat.reduceMul, Nat.reduceBEq, Nat.reduceLeDiff, Nat.reduceLT, beq_self_eq_true, cond_true, cond_false, Int.reduceToNat, tab.u3, tab.s3, tab.a3, tab.u5, tab.s5, tab.a5, tab.u35, tab.s35, tab.a35, tab.u36, tab.s36, tab.a36, nres, bwk_a, frz1, eq_self, implies_true, rho, ↓reduceIte, forall_const]
      · simp only [decide_eq_false_iff_not] at h2
        rw [if_neg (by omega)] at hg
        simp -dsimp (decide := true) (maxSteps := 1000000) (disch := first | omega | simp (decide := true) only [bdset_a, urows.flat, urows_length, brow_len, urow_len, brow_flat]) only [brun_a, ↓brun_b, envOf, reduceIte, Nat.reduceEqDiff, Nat.reduceAdd, Nat.reduceSub, Nat.reduceMul, Nat.reduceBEq, Nat.reduceLeDiff, Nat.reduceLT, beq_self_eq_true, cond_true, cond_false, Int.reduceToNat, tab.u3, tab.s3, tab.a3, tab.u5, tab.s5, tab.a5, tab.u35, tab.s35, tab.a35, tab.u36, tab.s36, tab.a36, brow_len, brow_cell, brows_at, urows_length, urows_at, urow_cell, urow_len]
        refine SCond.split (fun h3 => ?_) (fun h3 => ?_)
        · simp -dsimp (decide := true) (maxSteps := 1000000) (disch := first | omega | simp (decide := true) only [bdset_a, urows.flat, urows_length, brow_len, urow_len, brow_flat]) only [brun_a, ↓brun_b, envOf, reduceIte, Nat.reduceEqDiff, Nat.reduceAdd, Nat.reduceSub, Nat.reduceMul, Nat.reduceBEq, Nat.reduceLeDiff, Nat.reduceLT, beq_self_eq_true, cond_true, cond_false, Int.reduceToNat, tab.u3, tab.s3, tab.a3, tab.u5, tab.s5, tab.a5, tab.u35, tab.s35, tab.a35, tab.u36, tab.s36, tab.a36, brow_len, brow_cell, brows_at, urows_length, urows_at, urow_cell, urow_len]
          simp only [decide_eq_true_eq] at h3
          rw [if_pos h3] at hg
          rw [hg]
          refine SQ.answer (rs := [.tmp 4, .tmp 5, .tmp 6]) rfl rfl ?_
          simp -dsimp (decide := true) (maxSteps := 1000000) (disch := first | omega | simp (decide := true) only [bdset_a, urows.flat, urows_length, brow_len, urow_len, brow_flat]) only [brun_a, ↓brun_b, envOf, reduceIte, Nat.reduceEqDiff, Nat.reduceAdd, Nat.reduceSub, Nat.reduceMul, Nat.reduceBEq, Nat.reduceLeDiff, Nat.reduceLT, beq_self_eq_true, cond_true, cond_false, Int.reduceToNat, tab.u3, tab.s3, tab.a3, tab.u5, tab.s5, tab.a5, tab.u35, tab.s35, tab.a35, tab.u36, tab.s36, tab.a36, nres, bwk_a, frz1, eq_self, implies_true, rho, ↓reduceIte, forall_const]
        · simp only [decide_eq_false_iff_not] at h3
          rw [if_neg h3] at hg
          obtain ⟨a, rfl⟩ : ∃ a : Nat, p = a := ⟨p.toNat, by omega⟩
          have ha : a < l.length := by omega
          simp only [Int.toNat_natCast] at hg
          simp -dsimp (decide := true) (maxSteps := 1000000) (disch := first | omega | simp (decide := true) only [bdset_a, urows.flat, urows_length, brow_len, urow_len, brow_flat]) only [brun_a, ↓brun_b, envOf, reduceIte, Nat.reduceEqDiff, Nat.reduceAdd, Nat.reduceSub, Nat.reduceMul, Nat.reduceBEq, Nat.reduceLeDiff, Nat.reduceLT, beq_self_eq_true, cond_true, cond_false, Int.reduceToNat, tab.u3, tab.s3, tab.a3, tab.u5, tab.s5, tab.a5, tab.u35, tab.s35, tab.a35, tab.u36, tab.s36, tab.a36, brow_len, brow_cell, brows_at, urows_length, urows_at, urow_cell, urow_len]
          refine ⟨⟨by omega, by omega⟩, ?_⟩
          have hc := (l.getD a 0).toNat_lt
          have hok : numOk l a ↔ ((l.getD a 0).toNat ≤ 8 ∧ a + 1 + (l.getD a 0).toNat ≤ l.length ∧ ¬ (0 < (l.getD a 0).toNat ∧ (l.getD (a + 1) 0).toNat = 0)) := by
            unfold numOk
            rw [Int.toNat_natCast]
            constructor
            · rintro ⟨_, _, h⟩; exact h
            · intro h; exact ⟨by omega, by omega, h⟩
          generalize hcd : (l.getD a 0).toNat = c at *
          refine SCond.split (fun h4 => ?_) (fun h4 => ?_)
          · simp -dsimp (decide := true) (maxSteps := 1000000) (disch := first | omega | simp (decide := true) only [bdset_a, urows.flat, urows_length, brow_len, urow_len, brow_flat]) only [brun_a, ↓brun_b, envOf, reduceIte, Nat.reduceEqDiff, Nat.reduceAdd, Nat.reduceSub, Nat.reduceMul, Nat.reduceBEq, Nat.reduceLeDiff, Nat.reduceLT, beq_self_eq_true, cond_true, cond_false, Int.reduceToNat, tab.u3, tab.s3, tab.a3, tab.u5, tab.s5, tab.a5, tab.u35, tab.s35, tab.a35, tab.u36, tab.s36, tab.a36, brow_len, brow_cell, brows_at, urows_length, urows_at, urow_cell, urow_len]
            simp only [decide_eq_true_eq] at h4
            rw [if_pos (by omega)] at hg
            rw [hg]
            refine SQ.answer (rs := [.tmp 4, .tmp 5, .tmp 6]) rfl rfl ?_
            simp -dsimp (decide := true) (maxSteps := 1000000) (disch := first | omega | simp (decide := true) only [bdset_a, urows.flat, urows_length, brow_len, urow_len, brow_flat]) only [brun_a, ↓brun_b, envOf, reduceIte, Nat.reduceEqDiff, Nat.reduceAdd, Nat.reduceSub, Nat.reduceMul, Nat.reduceBEq, Nat.reduceLeDiff, Nat.reduceLT, beq_self_eq_true, cond_true, cond_false, Int.reduceToNat, tab.u3, tab.s3, tab.a3, tab.u5, tab.s5, tab.a5, tab.u35, tab.s35, tab.a35, tab.u36, tab.s36, tab.a36, nres, bwk_a, frz1, eq_self, implies_true, rho, ↓reduceIte, forall_const]
          · simp only [decide_eq_false_iff_not] at h4
            rw [if_neg (by omega)] at hg
            have hw1 : IntKind.i64.wrap (c : Int) = (c : Int) := wrap_i64 _ (by omega)
            have hw2 : IntKind.i64.wrap ((l.length : Int) - (a : Int)) = ((l.length - a : Nat) : Int) := by rw [wrap_i64 _ (by omega)]; omega
            have hw3 : IntKind.i64.wrap (((l.length - a : Nat) : Int) - 1) = ((l.length - a - 1 : Nat) : Int) := by rw [wrap_i64 _ (by omega)]; omega
            have hw4 : IntKind.i64.wrap ((a : Int) + 1) = ((a + 1 : Nat) : Int) := by rw [wrap_i64 _ (by omega)]; rfl
            simp -dsimp (decide := true) (maxSteps := 1000000) (disch := first | omega | simp (decide := true) only [bdset_a, urows.flat, urows_length, brow_len, urow_len, brow_flat]) only [brun_a, ↓brun_b, envOf, reduceIte, Nat.reduceEqDiff, Nat.reduceAdd, Nat.reduceSub, Nat.reduceMul, Nat.reduceBEq, Nat.reduceLeDiff, Nat.reduceLT, beq_self_eq_true, cond_true, cond_false, Int.reduceToNat, tab.u3, tab.s3, tab.a3, tab.u5, tab.s5, tab.a5, tab.u35, tab.s35, tab.a35, tab.u36, tab.s36, tab.a36, brow_len, brow_cell, brows_at, urows_length, urows_at, urow_cell, urow_len, hcd, hw1, hw2, hw3]
            refine ⟨⟨by omega, by omega⟩, ?_⟩
            refine SCond.split (fun h5 => ?_) (fun h5 => ?_)
            · simp -dsimp (decide := true) (maxSteps := 1000000) (disch := first | omega | simp (decide := true) only [bdset_a, urows.flat, urows_length, brow_len, urow_len, brow_flat]) only [brun_a, ↓brun_b, envOf, reduceIte, Nat.reduceEqDiff, Nat.reduceAdd, Nat.reduceSub, Nat.reduceMul, Nat.reduceBEq, Nat.reduceLeDiff, Nat.reduceLT, beq_self_eq_true, cond_true, cond_false, Int.reduceToNat, tab.u3, tab.s3, tab.a3, tab.u5, tab.s5, tab.a5, tab.u35, tab.s35, tab.a35, tab.u36, tab.s36, tab.a36, brow_len, brow_cell, brows_at, urows_length, urows_at, urow_cell, urow_len]
              simp only [decide_eq_true_eq] at h5
              rw [if_pos (by omega)] at hg
              rw [hg]
              refine SQ.answer (rs := [.tmp 4, .tmp 5, .tmp 6]) rfl rfl ?_
              simp -dsimp (decide := true) (maxSteps := 1000000) (disch := first | omega | simp (decide := true) only [bdset_a, urows.flat, urows_length, brow_len, urow_len, brow_flat]) only [brun_a, ↓brun_b, envOf, reduceIte, Nat.reduceEqDiff, Nat.reduceAdd, Nat.reduceSub, Nat.reduceMul, Nat.reduceBEq, Nat.reduceLeDiff, Nat.reduceLT, beq_self_eq_true, cond_true, cond_false, Int.reduceToNat, tab.u3, tab.s3, tab.a3, tab.u5, tab.s5, tab.a5, tab.u35, tab.s35, tab.a35, tab.u36, tab.s36, tab.a36, nres, bwk_a, frz1, eq_self, implies_true, rho, ↓reduceIte, forall_const]
            · simp only [decide_eq_false_iff_not] at h5
              rw [if_neg (by omega)] at hg
              simp -dsimp (decide := true) (maxSteps := 1000000) (disch := first | omega | simp (decide := true) only [bdset_a, urows.flat, urows_length, brow_len, urow_len, brow_flat]) only [brun_a, ↓brun_b, envOf, reduceIte, Nat.reduceEqDiff, Nat.reduceAdd, Nat.reduceSub, Nat.reduceMul, Nat.reduceBEq, Nat.reduceLeDiff, Nat.reduceLT, beq_self_eq_true, cond_true, cond_false, Int.reduceToNat, tab.u3, tab.s3, tab.a3, tab.u5, tab.s5, tab.a5, tab.u35, tab.s35, tab.a35, tab.u36, tab.s36, tab.a36, brow_len, brow_cell, brows_at, urows_length, urows_at, urow_cell, urow_len, hcd]
              refine ⟨⟨by omega, by omega⟩, ?_⟩
              refine SIf.split (fun h6 => ?_) (fun h6 => ?_)
              · have h6' : 0 < c := by simpa using h6
                simp -dsimp (decide := true) (maxSteps := 1000000) (disch := first | omega | simp (decide := true) only [bdset_a, urows.flat, urows_length, brow_len, urow_len, brow_flat]) only [brun_a, ↓brun_b, envOf, reduceIte, Nat.reduceEqDiff, Nat.reduceAdd, Nat.reduceSub, Nat.reduceMul, Nat.reduceBEq, Nat.reduceLeDiff, Nat.reduceLT, beq_self_eq_true, cond_true, cond_false, Int.reduceToNat, tab.u3, tab.s3, tab.a3, tab.u5, tab.s5, tab.a5, tab.u35, tab.s35, tab.a35, tab.u36, tab.s36, tab.a36, brow_len, brow_cell, brows_at, urows_length, urows_at, urow_cell, urow_len, h6, hw4]
                refine ⟨⟨by omega, by omega⟩, ?_⟩
                refine SCond.split (fun h7 => ?_) (fun h7 => ?_)
                · simp -dsimp (decide := true) (maxSteps := 1000000) (disch := first | omega | simp (decide := true) only [bdset_a, urows.flat, urows_length, brow_len, urow_len, brow_flat]) only [brun_a, ↓brun_b, envOf, reduceIte, Nat.reduceEqDiff, Nat.reduceAdd, Nat.reduceSub, Nat.reduceMul, Nat.reduceBEq, Nat.reduceLeDiff, Nat.reduceLT, beq_self_eq_true, cond_true, cond_false, Int.reduceToNat, tab.u3, tab.s3, tab.a3, tab.u5, tab.s5, tab.a5, tab.u35, tab.s35, tab.a35, tab.u36, tab.s36, tab.a36, brow_len, brow_cell, brows_at, urows_length, urows_at, urow_cell, urow_len]
                  simp only [decide_eq_true_eq] at h7
                  rw [if_pos ⟨h6', by omega⟩] at hg
                  rw [hg]
                  refine SQ.answer (rs := [.tmp 4, .tmp 5, .tmp 6]) rfl rfl ?_
                  simp -dsimp (decide := true) (maxSteps := 1000000) (disch := first | omega | simp (decide := true) only [bdset_a, urows.flat, urows_length, brow_len, urow_len, brow_flat]) only [brun_a, ↓brun_b, envOf, reduceIte, Nat.reduceEqDiff, Nat.reduceAdd, Nat.reduceSub, Nat.reduceMul, Nat.reduceBEq, Nat.reduceLeDiff, Nat.reduceLT, beq_self_eq_true, cond_true, cond_false, Int.reduceToNat, tab.u3, tab.s3, tab.a3, tab.u5, tab.s5, tab.a5, tab.u35, tab.s35, tab.a35, tab.u36, tab.s36, tab.a36, nres, bwk_a, frz1, eq_self, implies_true, rho, ↓reduceIte, forall_const]
                · simp -dsimp (decide := true) (maxSteps := 1000000) (disch := first | omega | simp (decide := true) only [bdset_a, urows.flat, urows_length, brow_len, urow_len, brow_flat]) only [brun_a, ↓brun_b, envOf, reduceIte, Nat.reduceEqDiff, Nat.reduceAdd, Nat.reduceSub, Nat.reduceMul, Nat.reduceBEq, Nat.reduceLeDiff, Nat.reduceLT, beq_self_eq_true, cond_true, cond_false, Int.reduceToNat, tab.u3, tab.s3, tab.a3, tab.u5, tab.s5, tab.a5, tab.u35, tab.s35, tab.a35, tab.u36, tab.s36, tab.a36, brow_len, brow_cell, brows_at, urows_length, urows_at, urow_cell, urow_len]
                  simp only [decide_eq_false_iff_not] at h7
                  refine ⟨hok.2 ⟨by omega, by omega, fun h => h7 (by omega)⟩, [], ?_⟩
                  (refine Wk.ofC ?_; simp -dsimp (decide := true) (maxSteps := 1000000) (disch := first | omega | simp (decide := true) only [bdset_a, urows.flat, urows_length, brow_len, urow_len, brow_flat]) only [brun_a, ↓brun_b, envOf, reduceIte, Nat.reduceEqDiff, Nat.reduceAdd, Nat.reduceSub, Nat.reduceMul, Nat.reduceBEq, Nat.reduceLeDiff, Nat.reduceLT, beq_self_eq_true, cond_true, cond_false, Int.reduceToNat, tab.u3, tab.s3, tab.a3, tab.u5, tab.s5, tab.a5, tab.u35, tab.s35, tab.a35, tab.u36, tab.s36, tab.a36, brow_len, brow_cell, brows_at, urows_length, urows_at, urow_cell, urow_len, bwk_a, frz1, eq_self, implies_true, rho, ↓reduceIte, forall_const])
              · have h6' : ¬ 0 < c := by simpa using h6
                simp -dsimp (decide := true) (maxSteps := 1000000) (disch := first | omega | simp (decide := true) only [bdset_a, urows.flat, urows_length, brow_len, urow_len, brow_flat]) only [brun_a, ↓brun_b, envOf, reduceIte, Nat.reduceEqDiff, Nat.reduceAdd, Nat.reduceSub, Nat.reduceMul, Nat.reduceBEq, Nat.reduceLeDiff, Nat.reduceLT, beq_self_eq_true, cond_true, cond_false, Int.reduceToNat, tab.u3, tab.s3, tab.a3, tab.u5, tab.s5, tab.a5, tab.u35, tab.s35, tab.a35, tab.u36, tab.s36, tab.a36, brow_len, brow_cell, brows_at, urows_length, urows_at, urow_cell, urow_len, h6]
                refine ⟨hok.2 ⟨by omega, by omega, fun h => h6' h.1⟩, [], ?_⟩
                (refine Wk.ofC ?_; simp -dsimp (decide := true) (maxSteps := 1000000) (disch := first | omega | simp (decide := true) only [bdset_a, urows.flat, urows_length, brow_len, urow_len, brow_flat]) only [brun_a, ↓brun_b, envOf, reduceIte, Nat.reduceEqDiff, Nat.reduceAdd, Nat.reduceSub, Nat.reduceMul, Nat.reduceBEq, Nat.reduceLeDiff, Nat.reduceLT, beq_self_eq_true, cond_true, cond_false, Int.reduceToNat, tab.u3, tab.s3, tab.a3, tab.u5, tab.s5, tab.a5, tab.u35, tab.s35, tab.a35, tab.u36, tab.s36, tab.a36, brow_len, brow_cell, brows_at, urows_length, urows_at, urow_cell, urow_len, bwk_a, frz1, eq_self, implies_true, rho, ↓reduceIte, forall_const])
  · rintro s' ⟨⟨k1, k2, k3, k4, k5⟩, l', hw⟩
    refine Sem.weaken l' hw ?_
    obtain ⟨a, rfl⟩ : ∃ a : Nat, p = a := ⟨p.toNat, by omega⟩
    simp only [Int.toNat_natCast] at k3 k4 k5 hg
    rw [if_neg (by omega), if_neg (by omega), if_neg (by omega), if_neg (by omega), if_neg k5] at hg
    have hw4 : IntKind.i64.wrap ((a : Int) + 1) = ((a + 1 : Nat) : Int) := by rw [wrap_i64 _ (by omega)]; rfl
    generalize hcd : (l.getD a 0).toNat = c at *
    refine Sem.go (k := 1000) ?_
    simp -dsimp (decide := true) (maxSteps := 1000000) (disch := first | omega | simp (decide := true) only [bdset_a, urows.flat, urows_length, brow_len, urow_len, brow_flat]) only [brun_a, ↓brun_b, envOf, reduceIte, Nat.reduceEqDiff, Nat.reduceAdd, Nat.reduceSub, Nat.reduceMul, Nat.reduceBEq, Nat.reduceLeDiff, Nat.reduceLT, beq_self_eq_true, cond_true, cond_false, Int.reduceToNat, tab.u3, tab.s3, tab.a3, tab.u5, tab.s5, tab.a5, tab.u35, tab.s35, tab.a35, tab.u36, tab.s36, tab.a36, brow_len, brow_cell, brows_at, urows_length, urows_at, urow_cell, urow_len]
    refine Sem.draw' (by kernel_rfl) (.one 0 (.one 1 (.one 2 (.one 3 (.one 4 (.one 5 (.one 6 (.one 7 (.one 8 (.one 9 (.one 10 .done))))))))))) [] (by kernel_rfl) (fun G ff hG hf => ?_)
    simp (decide := true) only [roL_in, roL_row, roL_nil, roL_none, ro_mk, Nat.zero_add, Nat.reduceAdd, List.length_cons, List.length_nil] at hG ⊢
    simp -dsimp (decide := true) (maxSteps := 1000000) (disch := first | omega | simp (decide := true) only [bdset_a, urows.flat, urows_length, brow_len, urow_len, brow_flat]) only [brun_a, ↓brun_b, envOf, reduceIte, Nat.reduceEqDiff, Nat.reduceAdd, Nat.reduceSub, Nat.reduceMul, Nat.reduceBEq, Nat.reduceLeDiff, Nat.reduceLT, beq_self_eq_true, cond_true, cond_false, Int.reduceToNat, tab.u3, tab.s3, tab.a3, tab.u5, tab.s5, tab.a5, tab.u35, tab.s35, tab.a35, tab.u36, tab.s36, tab.a36, brow_len, brow_cell, brows_at, urows_length, urows_at, urow_cell, urow_len, hw4, hcd]
    have hm : ((l.drop (a + 1)).take c).length = c := by simp; omega
    refine ⟨⟨by omega, by omega⟩, ⟨by omega, by omega⟩, ⟨by omega, by simp; omega⟩, ?_⟩
    generalize (l.drop (a + 1)).take c = m at *
    refine hf _ (Sem.go (k := 1000) ?_)
    simp (decide := true) only [back_mk, backL_in, backL_row, backL_none, backL_nil, Nat.zero_add, Nat.reduceAdd]
    simp -dsimp (decide := true) (maxSteps := 1000000) (disch := first | omega | simp (decide := true) only [bdset_a, urows.flat, urows_length, brow_len, urow_len, brow_flat]) only [brun_a, ↓brun_b, envOf, reduceIte, Nat.reduceEqDiff, Nat.reduceAdd, Nat.reduceSub, Nat.reduceMul, Nat.reduceBEq, Nat.reduceLeDiff, Nat.reduceLT, beq_self_eq_true, cond_true, cond_false, Int.reduceToNat, tab.u3, tab.s3, tab.a3, tab.u5, tab.s5, tab.a5, tab.u35, tab.s35, tab.a35, tab.u36, tab.s36, tab.a36, brow_len, brow_cell, brows_at, urows_length, urows_at, urow_cell, urow_len, hm]
    refine Sem.loop (ι := {k : Nat // k ≤ c}) (fun k => ⟨85, 0, [(0, bsl l), (1, .v (.int .i64 (a : Int))), (64, bsl m), (65, .v (.int .i64 (c : Int))), (66, .v (.int .i64 (k.1 : Int))), (7, .v (.int .u64 (numB (m.take k.1) : Int)))], []⟩) (fun k => c - k.1) ⟨0, by omega⟩ [] ?_ ?_
    · (refine Wk.ofC ?_; simp -dsimp (decide := true) (maxSteps := 1000000) (disch := first | omega | simp (decide := true) only [bdset_a, urows.flat, urows_length, brow_len, urow_len, brow_flat]) only [brun_a, ↓brun_b, envOf, reduceIte, Nat.reduceEqDiff, Nat.reduceAdd, Nat.reduceSub, Nat.reduceMul, Nat.reduceBEq, Nat.reduceLeDiff, Nat.reduceLT, beq_self_eq_true, cond_true, cond_false, Int.reduceToNat, tab.u3, tab.s3, tab.a3, tab.u5, tab.s5, tab.a5, tab.u35, tab.s35, tab.a35, tab.u36, tab.s36, tab.a36, brow_len, brow_cell, brows_at, urows_length, urows_at, urow_cell, urow_len, List.take_zero, numB, List.foldl_nil, bwk_a, frz1, eq_self, implies_true, rho, ↓reduceIte, forall_const])
    · rintro ⟨k, hk⟩
      refine Sem.go (k := 1000) ?_
      simp -dsimp (decide := true) (maxSteps := 1000000) (disch := first | omega | simp (decide := true) only [bdset_a, urows.flat, urows_length, brow_len, urow_len, brow_flat]) only [brun_a, ↓brun_b, envOf, reduceIte, Nat.reduceEqDiff, Nat.reduceAdd, Nat.reduceSub, Nat.reduceMul, Nat.reduceBEq, Nat.reduceLeDiff, Nat.reduceLT, beq_self_eq_true, cond_true, cond_false, Int.reduceToNat, tab.u3, tab.s3, tab.a3, tab.u5, tab.s5, tab.a5, tab.u35, tab.s35, tab.a35, tab.u36, tab.s36, tab.a36, brow_len, brow_cell, brows_at, urows_length, urows_at, urow_cell, urow_len]
      refine SCond.split (fun h => ?_) (fun h => ?_)
      · simp only [decide_eq_true_eq] at h
        have hk' : k < m.length := by omega
        have hw5 : IntKind.i64.wrap ((k : Int) + 1) = ((k + 1 : Nat) : Int) := by rw [wrap_i64 _ (by omega)]; rfl
        have h1 := numB_lt (m.take k)
        have h2 := pow256_le (m.take k).length 7 (by simp; omega)
        have h3 := numB_take m k hk'
        have h4 := (m.getD k 0).toNat_lt
        have h5 : (256 : Nat) ^ 7 = 72057594037927936 := by decide
        have hsh : IntKind.u64.wrap ((numB (m.take k) : Int) * 2 ^ (min 8 IntKind.u64.bits)) = ((numB (m.take k) * 256 : Nat) : Int) := by
          have : min 8 IntKind.u64.bits = 8 := by decide
          rw [this, wrap_u64 _ (by omega)]
          omega
        have hwx : IntKind.u64.wrap ((m.getD k 0).toNat : Int) = ((m.getD k 0).toNat : Int) := wrap_u64 _ (by omega)
        have hor := or_u64 (numB (m.take k)) (m.getD k 0).toNat (by omega) (by omega)
        simp -dsimp (decide := true) (maxSteps := 1000000) (disch := first | omega | simp (decide := true) only [bdset_a, urows.flat, urows_length, brow_len, urow_len, brow_flat]) only [brun_a, ↓brun_b, envOf, reduceIte, Nat.reduceEqDiff, Nat.reduceAdd, Nat.reduceSub, Nat.reduceMul, Nat.reduceBEq, Nat.reduceLeDiff, Nat.reduceLT, beq_self_eq_true, cond_true, cond_false, Int.reduceToNat, tab.u3, tab.s3, tab.a3, tab.u5, tab.s5, tab.a5, tab.u35, tab.s35, tab.a35, tab.u36, tab.s36, tab.a36, brow_len, brow_cell, brows_at, urows_length, urows_at, urow_cell, urow_len, hm, hw5, hsh, hwx, hor]
        refine ⟨⟨by omega, by omega⟩, ⟨k + 1, by omega⟩, [], ?_, by show c - (k + 1) < c - k; omega⟩
        (refine Wk.ofC ?_; simp -dsimp (decide := true) (maxSteps := 1000000) (disch := first | omega | simp (decide := true) only [bdset_a, urows.flat, urows_length, brow_len, urow_len, brow_flat]) only [brun_a, ↓brun_b, envOf, reduceIte, Nat.reduceEqDiff, Nat.reduceAdd, Nat.reduceSub, Nat.reduceMul, Nat.reduceBEq, Nat.reduceLeDiff, Nat.reduceLT, beq_self_eq_true, cond_true, cond_false, Int.reduceToNat, tab.u3, tab.s3, tab.a3, tab.u5, tab.s5, tab.a5, tab.u35, tab.s35, tab.a35, tab.u36, tab.s36, tab.a36, brow_len, brow_cell, brows_at, urows_length, urows_at, urow_cell, urow_len, h3, bwk_a, frz1, eq_self, implies_true, rho, ↓reduceIte, forall_const])
      · simp -dsimp (decide := true) (maxSteps := 1000000) (disch := first | omega | simp (decide := true) only [bdset_a, urows.flat, urows_length, brow_len, urow_len, brow_flat]) only [brun_a, ↓brun_b, envOf, reduceIte, Nat.reduceEqDiff, Nat.reduceAdd, Nat.reduceSub, Nat.reduceMul, Nat.reduceBEq, Nat.reduceLeDiff, Nat.reduceLT, beq_self_eq_true, cond_true, cond_false, Int.reduceToNat, tab.u3, tab.s3, tab.a3, tab.u5, tab.s5, tab.a5, tab.u35, tab.s35, tab.a35, tab.u36, tab.s36, tab.a36, brow_len, brow_cell, brows_at, urows_length, urows_at, urow_cell, urow_len]
        simp only [decide_eq_false_iff_not] at h
        obtain rfl : k = c := by omega
        refine Sem.draw' (by kernel_rfl) (.one 0 (.one 1 (.one 2 (.one 3 (.one 4 (.one 5 (.one 6 (.one 7 (.one 8 (.one 9 (.one 10 (.one 11 .done)))))))))))) [] (by kernel_rfl) (fun G ff hG hf => ?_)
        simp (decide := true) only [roL_in, roL_row, roL_nil, roL_none, ro_mk, Nat.zero_add, Nat.reduceAdd, List.length_cons, List.length_nil] at hG ⊢
        have hw6 : IntKind.i64.wrap (k : Int) = (k : Int) := wrap_i64 _ (by omega)
        have hw7 : IntKind.i64.wrap (((a + 1 : Nat) : Int) + (k : Int)) = (a : Int) + 1 + k := by rw [wrap_i64 _ (by omega)]; omega
        simp -dsimp (decide := true) (maxSteps := 1000000) (disch := first | omega | simp (decide := true) only [bdset_a, urows.flat, urows_length, brow_len, urow_len, brow_flat]) only [brun_a, ↓brun_b, envOf, reduceIte, Nat.reduceEqDiff, Nat.reduceAdd, Nat.reduceSub, Nat.reduceMul, Nat.reduceBEq, Nat.reduceLeDiff, Nat.reduceLT, beq_self_eq_true, cond_true, cond_false, Int.reduceToNat, tab.u3, tab.s3, tab.a3, tab.u5, tab.s5, tab.a5, tab.u35, tab.s35, tab.a35, tab.u36, tab.s36, tab.a36, brow_len, brow_cell, brows_at, urows_length, urows_at, urow_cell, urow_len, hw4, hcd, hw6, hw7]
        refine ⟨⟨by omega, by omega⟩, ?_⟩
        refine hf _ (Sem.go (k := 1000) ?_)
        simp (decide := true) only [back_mk, backL_in, backL_row, backL_none, backL_nil, Nat.zero_add, Nat.reduceAdd]
        simp -dsimp (decide := true) (maxSteps := 1000000) (disch := first | omega | simp (decide := true) only [bdset_a, urows.flat, urows_length, brow_len, urow_len, brow_flat]) only [brun_a, ↓brun_b, envOf, reduceIte, Nat.reduceEqDiff, Nat.reduceAdd, Nat.reduceSub, Nat.reduceMul, Nat.reduceBEq, Nat.reduceLeDiff, Nat.reduceLT, beq_self_eq_true, cond_true, cond_false, Int.reduceToNat, tab.u3, tab.s3, tab.a3, tab.u5, tab.s5, tab.a5, tab.u35, tab.s35, tab.a35, tab.u36, tab.s36, tab.a36]
        have hmt : m.take k = m := List.take_of_length_le (by omega)
        rw [hg]
        refine SQ.answer (rs := [.tmp 4, .tmp 5, .tmp 6]) rfl rfl ?_
        simp -dsimp (decide := true) (maxSteps := 1000000) (disch := first | omega | simp (decide := true) only [bdset_a, urows.flat, urows_length, brow_len, urow_len, brow_flat]) only [brun_a, ↓brun_b, envOf, reduceIte, Nat.reduceEqDiff, Nat.reduceAdd, Nat.reduceSub, Nat.reduceMul, Nat.reduceBEq, Nat.reduceLeDiff, Nat.reduceLT, beq_self_eq_true, cond_true, cond_false, Int.reduceToNat, tab.u3, tab.s3, tab.a3, tab.u5, tab.s5, tab.a5, tab.u35, tab.s35, tab.a35, tab.u36, tab.s36, tab.a36, nres, hmt, bwk_a, frz1, eq_self, implies_true, rho, ↓reduceIte, forall_const]
end Go.Proofs
