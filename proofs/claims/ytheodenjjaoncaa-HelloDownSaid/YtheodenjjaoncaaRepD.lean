/- Contracts of functions that the laws reach, on abstract values, and what they need: no conditions but those that each theorem states. -/
import Derived.Test.YtheodenjjaoncaaRepC
set_option linter.unusedVariables false
set_option linter.unusedSimpArgs false
namespace Go.Proofs
open Go Go.SL
set_option maxRecDepth 100000

def Hd.before (a b : Hd) : Bool := if I16.cmp a.id b.id ≠ 0 then decide (I16.cmp a.id b.id < 0) else if a.far ≠ b.far then decide (a.far < b.far) else decide (a.n < b.n)

theorem before_calls (a b : Hd) : Pure Try.prog 125 [.agg a.c, .agg b.c] (.v (.bool (Hd.before a b))) := by
  refine SCall.mk (fn := Try.f125) (by kernel_rfl) rfl (Nat.le_of_ble_eq_true (by kernel_rfl)) ?_
  refine Sem.go (k := 1000) ?_
  simp -dsimp (decide := true) (maxSteps := 1000000) (disch := first | omega | simp (decide := true) only [bdset_a, Hd.one, Hd.c_length, I16.c_length, I16.one, I16.flat, Hd.flat]) only [brun_a, ↓brun_b, envOf, reduceIte, Nat.reduceEqDiff, Nat.reduceAdd, Nat.reduceSub, Nat.reduceMul, Nat.reduceBEq, Nat.reduceLeDiff, Nat.reduceLT, beq_self_eq_true, cond_true, cond_false, Int.reduceToNat, tab.u2, tab.s2, tab.a2, tab.u3, tab.s3, tab.a3, tab.u5, tab.s5, tab.a5, tab.u23, tab.s23, tab.a23, tab.u24, tab.s24, tab.u26, tab.s26, tab.a26, tab.u28, tab.s28, tab.a28, tab.u30, tab.s30, tab.u36, tab.s36, tab.a36, tab.f26x0, tab.f26x1, tab.f26x2, tab.f28x0, tab.f28x1, tab.f28x2, I16.part, Hd.part_id, Hd.part_n, Hd.part_far, Hd.part, Hd.c_length, I16.c_length]
  refine SemOps.callp (k := 1000) rfl rfl rfl (fn := Try.f72) (by kernel_rfl) rfl (by kernel_rfl) (compare_calls a.id b.id) rfl (fun ρ => by simp only [renL_cons, renL_nil, ren_agg, renI]) (fun _ => rfl) (by simp -dsimp (decide := true) (maxSteps := 1000000) (disch := first | omega | simp (decide := true) only [bdset_a, Hd.one, Hd.c_length, I16.c_length, I16.one, I16.flat, Hd.flat]) only [brun_a, ↓brun_b, envOf, reduceIte, Nat.reduceEqDiff, Nat.reduceAdd, Nat.reduceSub, Nat.reduceMul, Nat.reduceBEq, Nat.reduceLeDiff, Nat.reduceLT, beq_self_eq_true, cond_true, cond_false, Int.reduceToNat]) ?_
  simp -dsimp (decide := true) (maxSteps := 1000000) (disch := first | omega | simp (decide := true) only [bdset_a, Hd.one, Hd.c_length, I16.c_length, I16.one, I16.flat, Hd.flat]) only [brun_a, ↓brun_b, envOf, reduceIte, Nat.reduceEqDiff, Nat.reduceAdd, Nat.reduceSub, Nat.reduceMul, Nat.reduceBEq, Nat.reduceLeDiff, Nat.reduceLT, beq_self_eq_true, cond_true, cond_false, Int.reduceToNat, tab.u2, tab.s2, tab.a2, tab.u3, tab.s3, tab.a3, tab.u5, tab.s5, tab.a5, tab.u23, tab.s23, tab.a23, tab.u24, tab.s24, tab.u26, tab.s26, tab.a26, tab.u28, tab.s28, tab.a28, tab.u30, tab.s30, tab.u36, tab.s36, tab.a36, tab.f26x0, tab.f26x1, tab.f26x2, tab.f28x0, tab.f28x1, tab.f28x2, I16.part, Hd.part_id, Hd.part_n, Hd.part_far, Hd.part, Hd.c_length, I16.c_length]
  refine SCond.split (fun h1 => ?_) (fun h1 => ?_)
  · simp -dsimp (decide := true) (maxSteps := 1000000) (disch := first | omega | simp (decide := true) only [bdset_a, Hd.one, Hd.c_length, I16.c_length, I16.one, I16.flat, Hd.flat]) only [brun_a, ↓brun_b, envOf, reduceIte, Nat.reduceEqDiff, Nat.reduceAdd, Nat.reduceSub, Nat.reduceMul, Nat.reduceBEq, Nat.reduceLeDiff, Nat.reduceLT, beq_self_eq_true, cond_true, cond_false, Int.reduceToNat, tab.u2, tab.s2, tab.a2, tab.u3, tab.s3, tab.a3, tab.u5, tab.s5, tab.a5, tab.u23, tab.s23, tab.a23, tab.u24, tab.s24, tab.u26, tab.s26, tab.a26, tab.u28, tab.s28, tab.a28, tab.u30, tab.s30, tab.u36, tab.s36, tab.a36, tab.f26x0, tab.f26x1, tab.f26x2, tab.f28x0, tab.f28x1, tab.f28x2, I16.part, Hd.part_id, Hd.part_n, Hd.part_far, Hd.part, Hd.c_length, I16.c_length]
    refine SQ.ans rfl ⟨trivial, trivial⟩ rfl ?_ (fun _ => rfl)
    simp only [Bool.not_eq_true', decide_eq_false_iff_not] at h1
    simp [lookup, Hd.before, SV.ofResults, h1]
  · simp -dsimp (decide := true) (maxSteps := 1000000) (disch := first | omega | simp (decide := true) only [bdset_a, Hd.one, Hd.c_length, I16.c_length, I16.one, I16.flat, Hd.flat]) only [brun_a, ↓brun_b, envOf, reduceIte, Nat.reduceEqDiff, Nat.reduceAdd, Nat.reduceSub, Nat.reduceMul, Nat.reduceBEq, Nat.reduceLeDiff, Nat.reduceLT, beq_self_eq_true, cond_true, cond_false, Int.reduceToNat, tab.u2, tab.s2, tab.a2, tab.u3, tab.s3, tab.a3, tab.u5, tab.s5, tab.a5, tab.u23, tab.s23, tab.a23, tab.u24, tab.s24, tab.u26, tab.s26, tab.a26, tab.u28, tab.s28, tab.a28, tab.u30, tab.s30, tab.u36, tab.s36, tab.a36, tab.f26x0, tab.f26x1, tab.f26x2, tab.f28x0, tab.f28x1, tab.f28x2, I16.part, Hd.part_id, Hd.part_n, Hd.part_far, Hd.part, Hd.c_length, I16.c_length]
    simp only [Bool.not_eq_false', decide_eq_true_eq] at h1
    refine SCond.split (fun h2 => ?_) (fun h2 => ?_)
    · simp -dsimp (decide := true) (maxSteps := 1000000) (disch := first | omega | simp (decide := true) only [bdset_a, Hd.one, Hd.c_length, I16.c_length, I16.one, I16.flat, Hd.flat]) only [brun_a, ↓brun_b, envOf, reduceIte, Nat.reduceEqDiff, Nat.reduceAdd, Nat.reduceSub, Nat.reduceMul, Nat.reduceBEq, Nat.reduceLeDiff, Nat.reduceLT, beq_self_eq_true, cond_true, cond_false, Int.reduceToNat, tab.u2, tab.s2, tab.a2, tab.u3, tab.s3, tab.a3, tab.u5, tab.s5, tab.a5, tab.u23, tab.s23, tab.a23, tab.u24, tab.s24, tab.u26, tab.s26, tab.a26, tab.u28, tab.s28, tab.a28, tab.u30, tab.s30, tab.u36, tab.s36, tab.a36, tab.f26x0, tab.f26x1, tab.f26x2, tab.f28x0, tab.f28x1, tab.f28x2, I16.part, Hd.part_id, Hd.part_n, Hd.part_far, Hd.part, Hd.c_length, I16.c_length]
      refine SQ.ans rfl ⟨trivial, trivial⟩ rfl ?_ (fun _ => rfl)
      simp only [Bool.not_eq_true', decide_eq_false_iff_not] at h2
      simp [lookup, Hd.before, SV.ofResults, h1, h2]
    · simp -dsimp (decide := true) (maxSteps := 1000000) (disch := first | omega | simp (decide := true) only [bdset_a, Hd.one, Hd.c_length, I16.c_length, I16.one, I16.flat, Hd.flat]) only [brun_a, ↓brun_b, envOf, reduceIte, Nat.reduceEqDiff, Nat.reduceAdd, Nat.reduceSub, Nat.reduceMul, Nat.reduceBEq, Nat.reduceLeDiff, Nat.reduceLT, beq_self_eq_true, cond_true, cond_false, Int.reduceToNat, tab.u2, tab.s2, tab.a2, tab.u3, tab.s3, tab.a3, tab.u5, tab.s5, tab.a5, tab.u23, tab.s23, tab.a23, tab.u24, tab.s24, tab.u26, tab.s26, tab.a26, tab.u28, tab.s28, tab.a28, tab.u30, tab.s30, tab.u36, tab.s36, tab.a36, tab.f26x0, tab.f26x1, tab.f26x2, tab.f28x0, tab.f28x1, tab.f28x2, I16.part, Hd.part_id, Hd.part_n, Hd.part_far, Hd.part, Hd.c_length, I16.c_length]
      refine SQ.ans rfl ⟨trivial, trivial⟩ rfl ?_ (fun _ => rfl)
      simp only [Bool.not_eq_false', decide_eq_true_eq] at h2
      simp [lookup, Hd.before, SV.ofResults, h1, h2]

theorem cellsEq_ints (l m : List Int) (h : l.length = m.length) : cellsEq (l.map fun x => SV.v (.int .u8 x)) (m.map fun x => SV.v (.int .u8 x)) = some (decide (l = m)) := by
  induction l generalizing m with
  | nil => cases m with
    | nil => rfl
    | cons y m => simp at h
  | cons x l ih => cases m with
    | nil => simp at h
    | cons y m =>
      simp only [List.map_cons, cellsEq, cellEq, if_true, ih m (by simpa using h)]
      simp
theorem I16.cellsEq (a b : I16) : cellsEq a.c b.c = some (decide (a.l = b.l)) := cellsEq_ints _ _ (by rw [a.len, b.len])

theorem all_range (l m : List Int) : ∀ (n : Nat), l.length = n → m.length = n → (List.range n).all (fun i => decide (l.getD i 0 = m.getD i 0)) = decide (l = m) := by
  intro n hl hm
  rw [Bool.eq_iff_iff, List.all_eq_true, decide_eq_true_eq]
  constructor
  · intro h
    refine List.ext_getElem (by omega) fun i h1 h2 => ?_
    have := h i (by simpa using by omega)
    simpa [h1, h2] using this
  · rintro rfl i _
    simp
theorem eqv23 (d : Nat) (a b : I16) : EqV Try.prog (d + 2) 23 (.agg a.c) (.agg b.c) (decide (a.l = b.l)) := by
  rw [← all_range a.l b.l 16 a.len b.len]
  refine EqV.array tab.u23 tab.s5 tab.a5 (fun _ => rfl) _ fun i hi => ⟨by rw [I16.c_length]; omega, by rw [I16.c_length]; omega, ?_⟩
  rw [Nat.mul_one]
  simp only [spart, Bool.false_eq_true, if_false, I16.cell _ i hi]
  exact EqV.int tab.u5
theorem flat23 (a b : I16) : FlatEq Try.prog 23 a.c b.c := EqV.flat (by kernel_rfl) (eqv23 9998 a b) (I16.cellsEq a b)

def Hd.ahead (a b : Hd) : Bool := if a.id.l ≠ b.id.l then I16.less a.id b.id else if a.far ≠ b.far then decide (a.far < b.far) else decide (a.n < b.n)

theorem ahead_calls (a b : Hd) : Pure Try.prog 126 [.agg a.c, .agg b.c] (.v (.bool (Hd.ahead a b))) := by
  refine SCall.mk (fn := Try.f126) (by kernel_rfl) rfl (Nat.le_of_ble_eq_true (by kernel_rfl)) ?_
  refine Sem.go (k := 1000) ?_
  simp -dsimp (decide := true) (maxSteps := 1000000) (disch := first | omega | simp (decide := true) only [bdset_a, Hd.one, Hd.c_length, I16.c_length, I16.one, I16.flat, Hd.flat]) only [brun_a, ↓brun_b, envOf, reduceIte, Nat.reduceEqDiff, Nat.reduceAdd, Nat.reduceSub, Nat.reduceMul, Nat.reduceBEq, Nat.reduceLeDiff, Nat.reduceLT, beq_self_eq_true, cond_true, cond_false, Int.reduceToNat, tab.u2, tab.s2, tab.a2, tab.u3, tab.s3, tab.a3, tab.u5, tab.s5, tab.a5, tab.u23, tab.s23, tab.a23, tab.u24, tab.s24, tab.u26, tab.s26, tab.a26, tab.u28, tab.s28, tab.a28, tab.u30, tab.s30, tab.u36, tab.s36, tab.a36, tab.f26x0, tab.f26x1, tab.f26x2, tab.f28x0, tab.f28x1, tab.f28x2, I16.part, Hd.part_id, Hd.part_n, Hd.part_far, Hd.part, Hd.c_length, I16.c_length, sBin_agg .neq 23 _ _ _ (I16.cellsEq _ _)]
  refine ⟨flat23 _ _, ?_⟩
  refine SCond.split (fun h1 => ?_) (fun h1 => ?_)
  · simp -dsimp (decide := true) (maxSteps := 1000000) (disch := first | omega | simp (decide := true) only [bdset_a, Hd.one, Hd.c_length, I16.c_length, I16.one, I16.flat, Hd.flat]) only [brun_a, ↓brun_b, envOf, reduceIte, Nat.reduceEqDiff, Nat.reduceAdd, Nat.reduceSub, Nat.reduceMul, Nat.reduceBEq, Nat.reduceLeDiff, Nat.reduceLT, beq_self_eq_true, cond_true, cond_false, Int.reduceToNat, tab.u2, tab.s2, tab.a2, tab.u3, tab.s3, tab.a3, tab.u5, tab.s5, tab.a5, tab.u23, tab.s23, tab.a23, tab.u24, tab.s24, tab.u26, tab.s26, tab.a26, tab.u28, tab.s28, tab.a28, tab.u30, tab.s30, tab.u36, tab.s36, tab.a36, tab.f26x0, tab.f26x1, tab.f26x2, tab.f28x0, tab.f28x1, tab.f28x2, I16.part, Hd.part_id, Hd.part_n, Hd.part_far, Hd.part, Hd.c_length, I16.c_length]
    simp only [Bool.not_eq_true', decide_eq_false_iff_not] at h1
    refine SemOps.callp (k := 1000) rfl rfl rfl (fn := Try.f41) (by kernel_rfl) rfl (by kernel_rfl) (less_calls a.id b.id) rfl (fun ρ => by simp only [renL_cons, renL_nil, ren_agg, renI]) (fun _ => rfl) (by simp -dsimp (decide := true) (maxSteps := 1000000) (disch := first | omega | simp (decide := true) only [bdset_a, Hd.one, Hd.c_length, I16.c_length, I16.one, I16.flat, Hd.flat]) only [brun_a, ↓brun_b, envOf, reduceIte, Nat.reduceEqDiff, Nat.reduceAdd, Nat.reduceSub, Nat.reduceMul, Nat.reduceBEq, Nat.reduceLeDiff, Nat.reduceLT, beq_self_eq_true, cond_true, cond_false, Int.reduceToNat]) ?_
    simp -dsimp (decide := true) (maxSteps := 1000000) (disch := first | omega | simp (decide := true) only [bdset_a, Hd.one, Hd.c_length, I16.c_length, I16.one, I16.flat, Hd.flat]) only [brun_a, ↓brun_b, envOf, reduceIte, Nat.reduceEqDiff, Nat.reduceAdd, Nat.reduceSub, Nat.reduceMul, Nat.reduceBEq, Nat.reduceLeDiff, Nat.reduceLT, beq_self_eq_true, cond_true, cond_false, Int.reduceToNat, tab.u2, tab.s2, tab.a2, tab.u3, tab.s3, tab.a3, tab.u5, tab.s5, tab.a5, tab.u23, tab.s23, tab.a23, tab.u24, tab.s24, tab.u26, tab.s26, tab.a26, tab.u28, tab.s28, tab.a28, tab.u30, tab.s30, tab.u36, tab.s36, tab.a36, tab.f26x0, tab.f26x1, tab.f26x2, tab.f28x0, tab.f28x1, tab.f28x2, I16.part, Hd.part_id, Hd.part_n, Hd.part_far, Hd.part, Hd.c_length, I16.c_length]
    refine SQ.ans rfl ⟨trivial, trivial⟩ rfl ?_ (fun _ => rfl)
    simp [lookup, Hd.ahead, SV.ofResults, h1]
  · simp -dsimp (decide := true) (maxSteps := 1000000) (disch := first | omega | simp (decide := true) only [bdset_a, Hd.one, Hd.c_length, I16.c_length, I16.one, I16.flat, Hd.flat]) only [brun_a, ↓brun_b, envOf, reduceIte, Nat.reduceEqDiff, Nat.reduceAdd, Nat.reduceSub, Nat.reduceMul, Nat.reduceBEq, Nat.reduceLeDiff, Nat.reduceLT, beq_self_eq_true, cond_true, cond_false, Int.reduceToNat, tab.u2, tab.s2, tab.a2, tab.u3, tab.s3, tab.a3, tab.u5, tab.s5, tab.a5, tab.u23, tab.s23, tab.a23, tab.u24, tab.s24, tab.u26, tab.s26, tab.a26, tab.u28, tab.s28, tab.a28, tab.u30, tab.s30, tab.u36, tab.s36, tab.a36, tab.f26x0, tab.f26x1, tab.f26x2, tab.f28x0, tab.f28x1, tab.f28x2, I16.part, Hd.part_id, Hd.part_n, Hd.part_far, Hd.part, Hd.c_length, I16.c_length]
    simp only [Bool.not_eq_false', decide_eq_true_eq] at h1
    refine SCond.split (fun h2 => ?_) (fun h2 => ?_)
    · simp -dsimp (decide := true) (maxSteps := 1000000) (disch := first | omega | simp (decide := true) only [bdset_a, Hd.one, Hd.c_length, I16.c_length, I16.one, I16.flat, Hd.flat]) only [brun_a, ↓brun_b, envOf, reduceIte, Nat.reduceEqDiff, Nat.reduceAdd, Nat.reduceSub, Nat.reduceMul, Nat.reduceBEq, Nat.reduceLeDiff, Nat.reduceLT, beq_self_eq_true, cond_true, cond_false, Int.reduceToNat, tab.u2, tab.s2, tab.a2, tab.u3, tab.s3, tab.a3, tab.u5, tab.s5, tab.a5, tab.u23, tab.s23, tab.a23, tab.u24, tab.s24, tab.u26, tab.s26, tab.a26, tab.u28, tab.s28, tab.a28, tab.u30, tab.s30, tab.u36, tab.s36, tab.a36, tab.f26x0, tab.f26x1, tab.f26x2, tab.f28x0, tab.f28x1, tab.f28x2, I16.part, Hd.part_id, Hd.part_n, Hd.part_far, Hd.part, Hd.c_length, I16.c_length]
      refine SQ.ans rfl ⟨trivial, trivial⟩ rfl ?_ (fun _ => rfl)
      simp only [Bool.not_eq_true', decide_eq_false_iff_not] at h2
      simp [lookup, Hd.ahead, SV.ofResults, h1, h2]
    · simp -dsimp (decide := true) (maxSteps := 1000000) (disch := first | omega | simp (decide := true) only [bdset_a, Hd.one, Hd.c_length, I16.c_length, I16.one, I16.flat, Hd.flat]) only [brun_a, ↓brun_b, envOf, reduceIte, Nat.reduceEqDiff, Nat.reduceAdd, Nat.reduceSub, Nat.reduceMul, Nat.reduceBEq, Nat.reduceLeDiff, Nat.reduceLT, beq_self_eq_true, cond_true, cond_false, Int.reduceToNat, tab.u2, tab.s2, tab.a2, tab.u3, tab.s3, tab.a3, tab.u5, tab.s5, tab.a5, tab.u23, tab.s23, tab.a23, tab.u24, tab.s24, tab.u26, tab.s26, tab.a26, tab.u28, tab.s28, tab.a28, tab.u30, tab.s30, tab.u36, tab.s36, tab.a36, tab.f26x0, tab.f26x1, tab.f26x2, tab.f28x0, tab.f28x1, tab.f28x2, I16.part, Hd.part_id, Hd.part_n, Hd.part_far, Hd.part, Hd.c_length, I16.c_length]
      refine SQ.ans rfl ⟨trivial, trivial⟩ rfl ?_ (fun _ => rfl)
      simp only [Bool.not_eq_false', decide_eq_true_eq] at h2
      simp [lookup, Hd.ahead, SV.ofResults, h1, h2]

def nth (x : Int) (h : 0 ≤ x ∧ x < 256) : I16 := ⟨[0, 0, 0, 0, 0, 0, 0, 0, 0, 0, 0, 0, 0, 0, 0, x], rfl, by
  intro y hy
  simp only [List.mem_cons, List.mem_nil_iff, or_false] at hy
  omega⟩
def I16.zero : I16 := ⟨[0, 0, 0, 0, 0, 0, 0, 0, 0, 0, 0, 0, 0, 0, 0, 0], rfl, by decide⟩
def Hd.zero : Hd := ⟨0, I16.zero, 0⟩
theorem build23 (x : Int) (h : 0 ≤ x ∧ x < 256) : sBuild Try.prog 23 [(15, .v (.int .u8 x))] = some ⟨.agg (nth x h).c, {}, True⟩ := by
  rw [sBuild_eq, tab.z23, tab.l23]
  rfl
theorem splice_n (h : Hd) (m : Int) : splice h.c 0 [.v (.int .i64 m)] = Hd.c { h with n := m } := rfl
theorem splice_id (h : Hd) (b : I16) : splice h.c 1 b.c = Hd.c { h with id := b } := by
  simp [splice, Hd.c, I16.c_length]
theorem zero26 : (List.map SV.v [Value.int IntKind.i64 (0 : Int), Value.int IntKind.u8 (0 : Int), Value.int IntKind.u8 (0 : Int), Value.int IntKind.u8 (0 : Int), Value.int IntKind.u8 (0 : Int), Value.int IntKind.u8 (0 : Int), Value.int IntKind.u8 (0 : Int), Value.int IntKind.u8 (0 : Int), Value.int IntKind.u8 (0 : Int), Value.int IntKind.u8 (0 : Int), Value.int IntKind.u8 (0 : Int), Value.int IntKind.u8 (0 : Int), Value.int IntKind.u8 (0 : Int), Value.int IntKind.u8 (0 : Int), Value.int IntKind.u8 (0 : Int), Value.int IntKind.u8 (0 : Int), Value.int IntKind.u8 (0 : Int), Value.int IntKind.i64 (0 : Int)]) = Hd.zero.c := rfl
theorem build26 (n : Int) (a : I16) : sBuild Try.prog 26 [(0, .v (.int .i64 n)), (1, .agg a.c)] = some ⟨.agg (Hd.c ⟨n, a, 0⟩), {}, True⟩ := by
  simp (disch := simp [Hd.c_length, I16.c_length]) only [sBuild_eq, sbuild1_struct, zero26, sfill_cons, sfill_nil, fieldPlaceOf_eq, tab.f26x0, tab.f26x1, tab.f26x2, tab.f28x0, tab.f28x1, tab.f28x2, Option.map_some, cells_int, cells_agg, sfill1_some, splice_n, splice_id, Hd.splice_far, sagg_some, tab.z26, tab.l26]
  rfl
theorem build26f (n : Int) (a : I16) (far : Int) : sBuild Try.prog 26 [(0, .v (.int .i64 n)), (1, .agg a.c), (2, .v (.int .i64 far))] = some ⟨.agg (Hd.c ⟨n, a, far⟩), {}, True⟩ := by
  simp (disch := simp [Hd.c_length, I16.c_length]) only [sBuild_eq, sbuild1_struct, zero26, sfill_cons, sfill_nil, fieldPlaceOf_eq, tab.f26x0, tab.f26x1, tab.f26x2, tab.f28x0, tab.f28x1, tab.f28x2, Option.map_some, cells_int, cells_agg, sfill1_some, splice_n, splice_id, Hd.splice_far, sagg_some, tab.z26, tab.l26]
theorem build28 (n : Int) (a : I16) : sBuild Try.prog 28 [(0, .v (.int .i64 n)), (1, .agg a.c)] = some ⟨.agg (Hd.c ⟨n, a, 0⟩), {}, True⟩ := by
  simp (disch := simp [Hd.c_length, I16.c_length]) only [sBuild_eq, sbuild1_struct, zero26, sfill_cons, sfill_nil, fieldPlaceOf_eq, tab.f26x0, tab.f26x1, tab.f26x2, tab.f28x0, tab.f28x1, tab.f28x2, Option.map_some, cells_int, cells_agg, sfill1_some, splice_n, splice_id, Hd.splice_far, sagg_some, tab.z28, tab.l28]
  rfl
theorem build28f (n : Int) (a : I16) (far : Int) : sBuild Try.prog 28 [(0, .v (.int .i64 n)), (1, .agg a.c), (2, .v (.int .i64 far))] = some ⟨.agg (Hd.c ⟨n, a, far⟩), {}, True⟩ := by
  simp (disch := simp [Hd.c_length, I16.c_length]) only [sBuild_eq, sbuild1_struct, zero26, sfill_cons, sfill_nil, fieldPlaceOf_eq, tab.f26x0, tab.f26x1, tab.f26x2, tab.f28x0, tab.f28x1, tab.f28x2, Option.map_some, cells_int, cells_agg, sfill1_some, splice_n, splice_id, Hd.splice_far, sagg_some, tab.z28, tab.l28]
theorem n_calls (x : Int) (h : 0 ≤ x ∧ x < 256) : Pure Try.prog 127 [.v (.int .u8 x)] (.agg (nth x h).c) := by
  refine SCall.mk (fn := Try.f127) (by kernel_rfl) rfl (Nat.le_of_ble_eq_true (by kernel_rfl)) ?_
  refine Sem.go (k := 1000) ?_
  have hal : ∀ N, sAlloc Try.prog N 23 = some ⟨.ptr N 0 0, ⟨none, some (.row ⟨16, 1, true, 23, fun _ => I16.zero.c⟩)⟩, True⟩ := fun N => sAlloc_eq N 23 _ tab.z23 rfl
  simp -dsimp (decide := true) (maxSteps := 1000000) (disch := first | omega | simp (decide := true) only [bdset_a, Hd.one, Hd.c_length, I16.c_length, I16.one, I16.flat, Hd.flat]) only [brun_a, ↓brun_b, envOf, reduceIte, Nat.reduceEqDiff, Nat.reduceAdd, Nat.reduceSub, Nat.reduceMul, Nat.reduceBEq, Nat.reduceLeDiff, Nat.reduceLT, beq_self_eq_true, cond_true, cond_false, Int.reduceToNat, tab.u2, tab.s2, tab.a2, tab.u3, tab.s3, tab.a3, tab.u5, tab.s5, tab.a5, tab.u23, tab.s23, tab.a23, tab.u24, tab.s24, tab.u26, tab.s26, tab.a26, tab.u28, tab.s28, tab.a28, tab.u30, tab.s30, tab.u36, tab.s36, tab.a36, tab.f26x0, tab.f26x1, tab.f26x2, tab.f28x0, tab.f28x1, tab.f28x2, I16.part, Hd.part_id, Hd.part_n, Hd.part_far, Hd.part, Hd.c_length, I16.c_length, hal, build23 x h, splice_all]
  refine SQ.run (rs := [.cell 2 23]) rfl rfl (fun ρ => by rw [ren_agg, renI]) ?_
  simp -dsimp (decide := true) (maxSteps := 1000000) (disch := first | omega | simp (decide := true) only [bdset_a, Hd.one, Hd.c_length, I16.c_length, I16.one, I16.flat, Hd.flat]) only [brun_a, ↓brun_b, envOf, reduceIte, Nat.reduceEqDiff, Nat.reduceAdd, Nat.reduceSub, Nat.reduceMul, Nat.reduceBEq, Nat.reduceLeDiff, Nat.reduceLT, beq_self_eq_true, cond_true, cond_false, Int.reduceToNat, tab.u2, tab.s2, tab.a2, tab.u3, tab.s3, tab.a3, tab.u5, tab.s5, tab.a5, tab.u23, tab.s23, tab.a23, tab.u24, tab.s24, tab.u26, tab.s26, tab.a26, tab.u28, tab.s28, tab.a28, tab.u30, tab.s30, tab.u36, tab.s36, tab.a36, tab.f26x0, tab.f26x1, tab.f26x2, tab.f28x0, tab.f28x1, tab.f28x2, I16.part, Hd.part_id, Hd.part_n, Hd.part_far, Hd.part, Hd.c_length, I16.c_length]
end Go.Proofs
