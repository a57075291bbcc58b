/- RepLeast, told of values: what the loop of the law finds of the least identity. No condition but a length that fits. -/
import Derived.Test.YtheodenjjaoncaaRepH
set_option linter.unusedVariables false
set_option linter.unusedSimpArgs false
namespace Go.Proofs
open Go Go.SL
set_option maxRecDepth 100000
def _root_.Go.SL.I16.key (a : I16) : Int := num a.l
theorem less_key (a b : I16) : I16.less a b = true ↔ a.key < b.key := by
  rw [← cmp_less]
  exact (cmpI_num a.l b.l (by rw [a.len, b.len]) a.rng b.rng).1
theorem less_irrefl (a : I16) : I16.less a a = false := by
  cases h : I16.less a a with
  | false => rfl
  | true => rw [less_key] at h; omega
theorem before_key (x b : Hd) : (Hd.before x b = true → x.id.key ≤ b.id.key) ∧ (Hd.before x b = false → b.id.key ≤ x.id.key) := by
  unfold Hd.before
  have h1 := cmpI_num x.id.l b.id.l (by rw [x.id.len, b.id.len]) x.id.rng b.id.rng
  have h2 : I16.cmp x.id b.id = cmpI x.id.l b.id.l := rfl
  have h3 : x.id.key = num x.id.l := rfl
  have h4 : b.id.key = num b.id.l := rfl
  by_cases h0 : I16.cmp x.id b.id = 0
  · rw [h2] at h0
    have h5 := h1.2.2.2 (h1.2.1.1 h0)
    exact ⟨fun _ => by omega, fun _ => by omega⟩
  · rw [if_pos h0]
    rw [h2]
    constructor
    · intro h
      simp only [decide_eq_true_eq] at h
      have := h1.1.1 h
      omega
    · intro h
      simp only [decide_eq_false_iff_not] at h
      have h5 : ¬ num x.id.l < num b.id.l := fun h6 => h (h1.1.2 h6)
      omega

def nearB (x : Hd) : Prop := 0 ≤ x.far ∧ x.far ≤ 5
theorem step_le (b x : Hd) : (Hd.step b x).id.key ≤ b.id.key ∧ (nearB x → (Hd.step b x).id.key ≤ x.id.key) ∧ (Hd.step b x = b ∨ (nearB x ∧ Hd.step b x = { x with far := x.far + 1 })) := by
  unfold Hd.step
  have h := before_key { x with far := x.far + 1 } b
  by_cases h1 : x.far < 0 ∨ x.far ≥ 6
  · rw [if_pos h1]
    exact ⟨Int.le_refl _, fun h2 => by have := h2.1; have := h2.2; omega, .inl rfl⟩
  · rw [if_neg h1]
    by_cases h2 : Hd.before { x with far := x.far + 1 } b = true
    · rw [if_pos h2]
      exact ⟨h.1 h2, fun _ => Int.le_refl _, .inr ⟨⟨by omega, by omega⟩, rfl⟩⟩
    · rw [if_neg h2]
      exact ⟨Int.le_refl _, fun _ => h.2 (by simpa using h2), .inl rfl⟩
theorem fold_least : ∀ (hs : List Hd) (b : Hd), (hs.foldl Hd.step b).id.key ≤ b.id.key ∧ (∀ y ∈ hs, nearB y → (hs.foldl Hd.step b).id.key ≤ y.id.key) ∧ (hs.foldl Hd.step b = b ∨ ∃ y ∈ hs, nearB y ∧ hs.foldl Hd.step b = { y with far := y.far + 1 })
  | [], b => ⟨Int.le_refl _, fun y h => by simp at h, .inl rfl⟩
  | x :: hs, b => by
    obtain ⟨h1, h2, h3⟩ := fold_least hs (Hd.step b x)
    obtain ⟨s1, s2, s3⟩ := step_le b x
    simp only [List.foldl_cons]
    refine ⟨by omega, fun y hy hn => ?_, ?_⟩
    · simp only [List.mem_cons] at hy
      rcases hy with rfl | hy
      · have := s2 hn; omega
      · exact h2 y hy hn
    · rcases h3 with h3 | ⟨y, hy, hn, h3⟩
      · rcases s3 with s3 | ⟨hn, s3⟩
        · exact .inl (h3.trans s3)
        · exact .inr ⟨x, by simp, hn, h3.trans s3⟩
      · exact .inr ⟨y, by simp [hy], hn, h3⟩

/-- Is it the one that the neighbour tells? -/
def tells (b y : Hd) : Bool := decide (y.n = b.n) && (decide (y.id.l = b.id.l) && (decide (y.far < 6) && decide (IntKind.i64.wrap (y.far + 1) = b.far)))
def toldB (self : I16) (b : Hd) (l : List Hd) : Bool := Hd.eqb b ⟨-1, self, 0⟩ || l.any (tells b)
theorem toldB_take (self : I16) (b : Hd) (l : List Hd) (k : Nat) (h : k < l.length) : toldB self b (l.take (k + 1)) = (toldB self b (l.take k) || tells b (l.getD k Hd.zero)) := by
  unfold toldB
  rw [List.take_add_one, List.getElem?_eq_getElem h, Option.toList_some, List.any_append, List.getD_eq_getElem?_getD, List.getElem?_eq_getElem h]
  simp [Bool.or_assoc]
theorem told_true (self : I16) (hs : List Hd) : toldB self (best self hs) hs = true := by
  unfold toldB best
  rcases (fold_least hs ⟨-1, self, 0⟩).2.2 with h | ⟨y, hy, hn, h⟩
  · rw [h]; simp [Hd.eqb]
  · rw [h, Bool.or_eq_true, List.any_eq_true]
    right
    refine ⟨y, hy, ?_⟩
    have h1 := hn.1
    have h2 := hn.2
    have hw : IntKind.i64.wrap (y.far + 1) = y.far + 1 := wrap_i64 _ (by omega)
    simp [tells, hw]
    omega
theorem self_least (self : I16) (hs : List Hd) : I16.less self (best self hs).id = false := by
  cases h : I16.less self (best self hs).id with
  | false => rfl
  | true =>
    rw [less_key] at h
    have := (fold_least hs ⟨-1, self, 0⟩).1
    unfold best at h
    simp only at this
    omega
theorem near_least (self : I16) (hs : List Hd) (y : Hd) (hy : y ∈ hs) (hn : nearB y) : I16.less y.id (best self hs).id = false := by
  cases h : I16.less y.id (best self hs).id with
  | false => rfl
  | true =>
    rw [less_key] at h
    have := (fold_least hs ⟨-1, self, 0⟩).2.1 y hy hn
    unfold best at h
    omega

theorem least_calls (self : I16) (hs : List Hd) (hb : hs.length * 32 ≤ 140737488355328) : Pure Try.prog 4 [.agg self.c, .rsl 18 (hrows hs)] (.v (.bool true)) := by
  refine SCall.mk (fn := Try.f4) (by kernel_rfl) rfl (Nat.le_of_ble_eq_true (by kernel_rfl)) ?_
  refine Sem.go (k := 1000) ?_
  simp -dsimp (decide := true) (maxSteps := 1000000) (disch := first | omega | simp (decide := true) only [bdset_a, Hd.one, Hd.c_length, I16.c_length, I16.one, I16.flat, Hd.flat, hrows.flat, hrows_length]) only [brun_a, ↓brun_b, envOf, reduceIte, Nat.reduceEqDiff, Nat.reduceAdd, Nat.reduceSub, Nat.reduceMul, Nat.reduceBEq, Nat.reduceLeDiff, Nat.reduceLT, beq_self_eq_true, cond_true, cond_false, Int.reduceToNat, tab.u2, tab.s2, tab.a2, tab.u3, tab.s3, tab.a3, tab.u5, tab.s5, tab.a5, tab.u23, tab.s23, tab.a23, tab.u24, tab.s24, tab.a24, tab.u26, tab.s26, tab.a26, tab.f26x0, tab.f26x1, tab.f26x2, I16.part, Hd.part_id, Hd.part_n, Hd.part_far, Hd.part, Hd.c_length, I16.c_length, hrows_length, hrows_getD]
  refine SemOps.callq (k := 1000) cal.f37 (best_calls self hs (by omega)) rfl rfl rfl rfl (by simp only [bflat_a, I16.flat, Hd.flat, hrows.flat]) (by simp only [bflat_a, I16.flat, Hd.flat, hrows.flat]) (by simp -dsimp (decide := true) (maxSteps := 1000000) (disch := first | omega | simp (decide := true) only [bdset_a, Hd.one, Hd.c_length, I16.c_length, I16.one, I16.flat, Hd.flat, hrows.flat, hrows_length]) only [brun_a, ↓brun_b, envOf, reduceIte, Nat.reduceEqDiff, Nat.reduceAdd, Nat.reduceSub, Nat.reduceMul, Nat.reduceBEq, Nat.reduceLeDiff, Nat.reduceLT, beq_self_eq_true, cond_true, cond_false, Int.reduceToNat, tab.u2, tab.s2, tab.a2, tab.u3, tab.s3, tab.a3, tab.u5, tab.s5, tab.a5, tab.u23, tab.s23, tab.a23, tab.u24, tab.s24, tab.a24, tab.u26, tab.s26, tab.a26, tab.f26x0, tab.f26x1, tab.f26x2]) ?_
  simp -dsimp (decide := true) (maxSteps := 1000000) (disch := first | omega | simp (decide := true) only [bdset_a, Hd.one, Hd.c_length, I16.c_length, I16.one, I16.flat, Hd.flat, hrows.flat, hrows_length]) only [brun_a, ↓brun_b, envOf, reduceIte, Nat.reduceEqDiff, Nat.reduceAdd, Nat.reduceSub, Nat.reduceMul, Nat.reduceBEq, Nat.reduceLeDiff, Nat.reduceLT, beq_self_eq_true, cond_true, cond_false, Int.reduceToNat, tab.u2, tab.s2, tab.a2, tab.u3, tab.s3, tab.a3, tab.u5, tab.s5, tab.a5, tab.u23, tab.s23, tab.a23, tab.u24, tab.s24, tab.a24, tab.u26, tab.s26, tab.a26, tab.f26x0, tab.f26x1, tab.f26x2, I16.part, Hd.part_id, Hd.part_n, Hd.part_far, Hd.part, Hd.c_length, I16.c_length, hrows_length, hrows_getD, alloc26, splice_all]
  refine SemOps.callq (k := 1000) cal.f41 (less_calls _ _) rfl rfl rfl rfl (by simp only [bflat_a, I16.flat, Hd.flat, hrows.flat]) (by simp only [bflat_a, I16.flat, Hd.flat, hrows.flat]) (by simp -dsimp (decide := true) (maxSteps := 1000000) (disch := first | omega | simp (decide := true) only [bdset_a, Hd.one, Hd.c_length, I16.c_length, I16.one, I16.flat, Hd.flat, hrows.flat, hrows_length]) only [brun_a, ↓brun_b, envOf, reduceIte, Nat.reduceEqDiff, Nat.reduceAdd, Nat.reduceSub, Nat.reduceMul, Nat.reduceBEq, Nat.reduceLeDiff, Nat.reduceLT, beq_self_eq_true, cond_true, cond_false, Int.reduceToNat, tab.u2, tab.s2, tab.a2, tab.u3, tab.s3, tab.a3, tab.u5, tab.s5, tab.a5, tab.u23, tab.s23, tab.a23, tab.u24, tab.s24, tab.a24, tab.u26, tab.s26, tab.a26, tab.f26x0, tab.f26x1, tab.f26x2]) ?_
  simp -dsimp (decide := true) (maxSteps := 1000000) (disch := first | omega | simp (decide := true) only [bdset_a, Hd.one, Hd.c_length, I16.c_length, I16.one, I16.flat, Hd.flat, hrows.flat, hrows_length]) only [brun_a, ↓brun_b, envOf, reduceIte, Nat.reduceEqDiff, Nat.reduceAdd, Nat.reduceSub, Nat.reduceMul, Nat.reduceBEq, Nat.reduceLeDiff, Nat.reduceLT, beq_self_eq_true, cond_true, cond_false, Int.reduceToNat, tab.u2, tab.s2, tab.a2, tab.u3, tab.s3, tab.a3, tab.u5, tab.s5, tab.a5, tab.u23, tab.s23, tab.a23, tab.u24, tab.s24, tab.a24, tab.u26, tab.s26, tab.a26, tab.f26x0, tab.f26x1, tab.f26x2, I16.part, Hd.part_id, Hd.part_n, Hd.part_far, Hd.part, Hd.c_length, I16.c_length, hrows_length, hrows_getD, self_least, build26, sBin_agg .eql 26 _ _ _ (Hd.cellsEq _ _)]
  refine ⟨flat26 _ _, ?_⟩
  refine Sem.loop (ι := {k : Nat // k ≤ hs.length}) (fun k => ⟨74, 0, [(20, .rsl 18 (hrows hs)), (21, .v (.int .i64 (hs.length : Int))), (22, .v (.int .i64 (k.1 : Int))), (5, .ptr 0 0 0), (6, .v (.bool (toldB self (best self hs) (hs.take k.1)))), (4, .v (.bool false))],
      [some (.row ⟨18, 1, true, 26, fun _ => (best self hs).c⟩)]⟩) (fun k => hs.length - k.1) ⟨0, by omega⟩ [1] ?_ ?_
  · (refine Wk.ofC ?_; simp -dsimp (decide := true) (maxSteps := 1000000) (disch := first | omega | simp (decide := true) only [bdset_a, Hd.one, Hd.c_length, I16.c_length, I16.one, I16.flat, Hd.flat, hrows.flat, hrows_length]) only [brun_a, ↓brun_b, envOf, reduceIte, Nat.reduceEqDiff, Nat.reduceAdd, Nat.reduceSub, Nat.reduceMul, Nat.reduceBEq, Nat.reduceLeDiff, Nat.reduceLT, beq_self_eq_true, cond_true, cond_false, Int.reduceToNat, tab.u2, tab.s2, tab.a2, tab.u3, tab.s3, tab.a3, tab.u5, tab.s5, tab.a5, tab.u23, tab.s23, tab.a23, tab.u24, tab.s24, tab.a24, tab.u26, tab.s26, tab.a26, tab.f26x0, tab.f26x1, tab.f26x2, I16.part, Hd.part_id, Hd.part_n, Hd.part_far, Hd.part, Hd.c_length, I16.c_length, hrows_length, hrows_getD, List.take_zero, toldB, List.any_nil, Bool.or_false, bwk_a, frz1, eq_self, implies_true, rho, ↓reduceIte, forall_const])
  · rintro ⟨k, hk⟩
    refine Sem.go (k := 1000) ?_
    simp -dsimp (decide := true) (maxSteps := 1000000) (disch := first | omega | simp (decide := true) only [bdset_a, Hd.one, Hd.c_length, I16.c_length, I16.one, I16.flat, Hd.flat, hrows.flat, hrows_length]) only [brun_a, ↓brun_b, envOf, reduceIte, Nat.reduceEqDiff, Nat.reduceAdd, Nat.reduceSub, Nat.reduceMul, Nat.reduceBEq, Nat.reduceLeDiff, Nat.reduceLT, beq_self_eq_true, cond_true, cond_false, Int.reduceToNat, tab.u2, tab.s2, tab.a2, tab.u3, tab.s3, tab.a3, tab.u5, tab.s5, tab.a5, tab.u23, tab.s23, tab.a23, tab.u24, tab.s24, tab.a24, tab.u26, tab.s26, tab.a26, tab.f26x0, tab.f26x1, tab.f26x2, I16.part, Hd.part_id, Hd.part_n, Hd.part_far, Hd.part, Hd.c_length, I16.c_length, hrows_length, hrows_getD]
    refine SCond.split (fun h => ?_) (fun h => ?_)
    · simp only [decide_eq_true_eq] at h
      have hk' : k < hs.length := by omega
      have hw : IntKind.i64.wrap ((k : Int) + 1) = ((k + 1 : Nat) : Int) := by rw [wrap_i64 _ (by omega)]; rfl
      have hst := toldB_take self (best self hs) hs k hk'
      have hmem : hs.getD k Hd.zero ∈ hs := by rw [List.getD_eq_getElem?_getD, List.getElem?_eq_getElem hk', Option.getD_some]; exact List.getElem_mem hk'
      have hnear := near_least self hs _ hmem
      have fin : ∀ (told : Bool) (env : List (Nat × SV)) (r : List (Option SK)), toldB self (best self hs) (hs.take (k + 1)) = told → lookup env 20 = .rsl 18 (hrows hs) → lookup env 21 = .v (.int .i64 (hs.length : Int)) → lookup env 22 = .v (.int .i64 ((k + 1 : Nat) : Int)) → lookup env 5 = .ptr 0 0 0 → lookup env 6 = .v (.bool told) → lookup env 4 = .v (.bool false) →
          ∃ (j : {k : Nat // k ≤ hs.length}) (l : List Nat), Wk l ⟨74, 0, env, some (.row ⟨18, 1, true, 26, fun _ => (best self hs).c⟩) :: r⟩ ⟨74, 0, [(20, .rsl 18 (hrows hs)), (21, .v (.int .i64 (hs.length : Int))), (22, .v (.int .i64 (j.1 : Int))), (5, .ptr 0 0 0), (6, .v (.bool (toldB self (best self hs) (hs.take j.1)))), (4, .v (.bool false))],
            [some (.row ⟨18, 1, true, 26, fun _ => (best self hs).c⟩)]⟩ ∧ hs.length - j.1 < hs.length - k := by
        intro told env r hx e1 e2 e3 e4 e5 e6
        refine ⟨⟨k + 1, hk'⟩, [0], ?_, by show hs.length - (k + 1) < hs.length - k; omega⟩
        (refine Wk.ofC ?_; simp -dsimp (decide := true) (maxSteps := 1000000) (disch := first | omega | simp (decide := true) only [bdset_a, Hd.one, Hd.c_length, I16.c_length, I16.one, I16.flat, Hd.flat, hrows.flat, hrows_length]) only [brun_a, ↓brun_b, envOf, reduceIte, Nat.reduceEqDiff, Nat.reduceAdd, Nat.reduceSub, Nat.reduceMul, Nat.reduceBEq, Nat.reduceLeDiff, Nat.reduceLT, beq_self_eq_true, cond_true, cond_false, Int.reduceToNat, tab.u2, tab.s2, tab.a2, tab.u3, tab.s3, tab.a3, tab.u5, tab.s5, tab.a5, tab.u23, tab.s23, tab.a23, tab.u24, tab.s24, tab.a24, tab.u26, tab.s26, tab.a26, tab.f26x0, tab.f26x1, tab.f26x2, I16.part, Hd.part_id, Hd.part_n, Hd.part_far, Hd.part, Hd.c_length, I16.c_length, hrows_length, hrows_getD, e1, e2, e3, e4, e5, e6, hx, bwk_a, frz1, eq_self, implies_true, rho, ↓reduceIte, forall_const])
      simp -dsimp (decide := true) (maxSteps := 1000000) (disch := first | omega | simp (decide := true) only [bdset_a, Hd.one, Hd.c_length, I16.c_length, I16.one, I16.flat, Hd.flat, hrows.flat, hrows_length]) only [brun_a, ↓brun_b, envOf, reduceIte, Nat.reduceEqDiff, Nat.reduceAdd, Nat.reduceSub, Nat.reduceMul, Nat.reduceBEq, Nat.reduceLeDiff, Nat.reduceLT, beq_self_eq_true, cond_true, cond_false, Int.reduceToNat, tab.u2, tab.s2, tab.a2, tab.u3, tab.s3, tab.a3, tab.u5, tab.s5, tab.a5, tab.u23, tab.s23, tab.a23, tab.u24, tab.s24, tab.a24, tab.u26, tab.s26, tab.a26, tab.f26x0, tab.f26x1, tab.f26x2, I16.part, Hd.part_id, Hd.part_n, Hd.part_far, Hd.part, Hd.c_length, I16.c_length, hrows_length, hrows_getD, hw, alloc26, splice_all]
      refine ⟨⟨by omega, by omega⟩, ?_⟩
      generalize hs.getD k Hd.zero = y at *
      refine SIf.split (fun h1 => ?_) (fun h1 => ?_)
      · simp -dsimp (decide := true) (maxSteps := 1000000) (disch := first | omega | simp (decide := true) only [bdset_a, Hd.one, Hd.c_length, I16.c_length, I16.one, I16.flat, Hd.flat, hrows.flat, hrows_length]) only [brun_a, ↓brun_b, envOf, reduceIte, Nat.reduceEqDiff, Nat.reduceAdd, Nat.reduceSub, Nat.reduceMul, Nat.reduceBEq, Nat.reduceLeDiff, Nat.reduceLT, beq_self_eq_true, cond_true, cond_false, Int.reduceToNat, tab.u2, tab.s2, tab.a2, tab.u3, tab.s3, tab.a3, tab.u5, tab.s5, tab.a5, tab.u23, tab.s23, tab.a23, tab.u24, tab.s24, tab.a24, tab.u26, tab.s26, tab.a26, tab.f26x0, tab.f26x1, tab.f26x2, I16.part, Hd.part_id, Hd.part_n, Hd.part_far, Hd.part, Hd.c_length, I16.c_length, hrows_length, hrows_getD, h1, hw]
        refine SIf.split (fun h2 => ?_) (fun h2 => ?_)
        · simp -dsimp (decide := true) (maxSteps := 1000000) (disch := first | omega | simp (decide := true) only [bdset_a, Hd.one, Hd.c_length, I16.c_length, I16.one, I16.flat, Hd.flat, hrows.flat, hrows_length]) only [brun_a, ↓brun_b, envOf, reduceIte, Nat.reduceEqDiff, Nat.reduceAdd, Nat.reduceSub, Nat.reduceMul, Nat.reduceBEq, Nat.reduceLeDiff, Nat.reduceLT, beq_self_eq_true, cond_true, cond_false, Int.reduceToNat, tab.u2, tab.s2, tab.a2, tab.u3, tab.s3, tab.a3, tab.u5, tab.s5, tab.a5, tab.u23, tab.s23, tab.a23, tab.u24, tab.s24, tab.a24, tab.u26, tab.s26, tab.a26, tab.f26x0, tab.f26x1, tab.f26x2, I16.part, Hd.part_id, Hd.part_n, Hd.part_far, Hd.part, Hd.c_length, I16.c_length, hrows_length, hrows_getD, h1, h2, hw]
          refine SemOps.callq (k := 1000) cal.f41 (less_calls _ _) rfl rfl rfl rfl (by simp only [bflat_a, I16.flat, Hd.flat, hrows.flat]) (by simp only [bflat_a, I16.flat, Hd.flat, hrows.flat]) (by simp -dsimp (decide := true) (maxSteps := 1000000) (disch := first | omega | simp (decide := true) only [bdset_a, Hd.one, Hd.c_length, I16.c_length, I16.one, I16.flat, Hd.flat, hrows.flat, hrows_length]) only [brun_a, ↓brun_b, envOf, reduceIte, Nat.reduceEqDiff, Nat.reduceAdd, Nat.reduceSub, Nat.reduceMul, Nat.reduceBEq, Nat.reduceLeDiff, Nat.reduceLT, beq_self_eq_true, cond_true, cond_false, Int.reduceToNat, tab.u2, tab.s2, tab.a2, tab.u3, tab.s3, tab.a3, tab.u5, tab.s5, tab.a5, tab.u23, tab.s23, tab.a23, tab.u24, tab.s24, tab.a24, tab.u26, tab.s26, tab.a26, tab.f26x0, tab.f26x1, tab.f26x2]) ?_
          simp only [decide_eq_true_eq] at h1 h2
          have hless := hnear ⟨h1, h2⟩
          simp -dsimp (decide := true) (maxSteps := 1000000) (disch := first | omega | simp (decide := true) only [bdset_a, Hd.one, Hd.c_length, I16.c_length, I16.one, I16.flat, Hd.flat, hrows.flat, hrows_length]) only [brun_a, ↓brun_b, envOf, reduceIte, Nat.reduceEqDiff, Nat.reduceAdd, Nat.reduceSub, Nat.reduceMul, Nat.reduceBEq, Nat.reduceLeDiff, Nat.reduceLT, beq_self_eq_true, cond_true, cond_false, Int.reduceToNat, tab.u2, tab.s2, tab.a2, tab.u3, tab.s3, tab.a3, tab.u5, tab.s5, tab.a5, tab.u23, tab.s23, tab.a23, tab.u24, tab.s24, tab.a24, tab.u26, tab.s26, tab.a26, tab.f26x0, tab.f26x1, tab.f26x2, I16.part, Hd.part_id, Hd.part_n, Hd.part_far, Hd.part, Hd.c_length, I16.c_length, hrows_length, hrows_getD, hless]
          repeat' (first | (refine SIf.split (fun hp => ?_) (fun hp => ?_) <;> simp -dsimp (decide := true) (maxSteps := 1000000) (disch := first | omega | simp (decide := true) only [bdset_a, Hd.one, Hd.c_length, I16.c_length, I16.one, I16.flat, Hd.flat, hrows.flat, hrows_length]) only [brun_a, ↓brun_b, envOf, reduceIte, Nat.reduceEqDiff, Nat.reduceAdd, Nat.reduceSub, Nat.reduceMul, Nat.reduceBEq, Nat.reduceLeDiff, Nat.reduceLT, beq_self_eq_true, cond_true, cond_false, Int.reduceToNat, tab.u2, tab.s2, tab.a2, tab.u3, tab.s3, tab.a3, tab.u5, tab.s5, tab.a5, tab.u23, tab.s23, tab.a23, tab.u24, tab.s24, tab.a24, tab.u26, tab.s26, tab.a26, tab.f26x0, tab.f26x1, tab.f26x2, I16.part, Hd.part_id, Hd.part_n, Hd.part_far, Hd.part, Hd.c_length, I16.c_length, hrows_length, hrows_getD, hw, sBin_agg .eql 23 _ _ _ (I16.cellsEq _ _), hp]) | (refine SCond.split (fun hp => ?_) (fun hp => ?_) <;> simp -dsimp (decide := true) (maxSteps := 1000000) (disch := first | omega | simp (decide := true) only [bdset_a, Hd.one, Hd.c_length, I16.c_length, I16.one, I16.flat, Hd.flat, hrows.flat, hrows_length]) only [brun_a, ↓brun_b, envOf, reduceIte, Nat.reduceEqDiff, Nat.reduceAdd, Nat.reduceSub, Nat.reduceMul, Nat.reduceBEq, Nat.reduceLeDiff, Nat.reduceLT, beq_self_eq_true, cond_true, cond_false, Int.reduceToNat, tab.u2, tab.s2, tab.a2, tab.u3, tab.s3, tab.a3, tab.u5, tab.s5, tab.a5, tab.u23, tab.s23, tab.a23, tab.u24, tab.s24, tab.a24, tab.u26, tab.s26, tab.a26, tab.f26x0, tab.f26x1, tab.f26x2, I16.part, Hd.part_id, Hd.part_n, Hd.part_far, Hd.part, Hd.c_length, I16.c_length, hrows_length, hrows_getD, hw, sBin_agg .eql 23 _ _ _ (I16.cellsEq _ _)]) | (refine And.intro (flat23 _ _) ?_) | (fail))
          all_goals exact fin _ _ _ (by rw [hst]; simp_all [tells] <;> (intro _; omega)) rfl rfl rfl rfl rfl rfl
        · simp -dsimp (decide := true) (maxSteps := 1000000) (disch := first | omega | simp (decide := true) only [bdset_a, Hd.one, Hd.c_length, I16.c_length, I16.one, I16.flat, Hd.flat, hrows.flat, hrows_length]) only [brun_a, ↓brun_b, envOf, reduceIte, Nat.reduceEqDiff, Nat.reduceAdd, Nat.reduceSub, Nat.reduceMul, Nat.reduceBEq, Nat.reduceLeDiff, Nat.reduceLT, beq_self_eq_true, cond_true, cond_false, Int.reduceToNat, tab.u2, tab.s2, tab.a2, tab.u3, tab.s3, tab.a3, tab.u5, tab.s5, tab.a5, tab.u23, tab.s23, tab.a23, tab.u24, tab.s24, tab.a24, tab.u26, tab.s26, tab.a26, tab.f26x0, tab.f26x1, tab.f26x2, I16.part, Hd.part_id, Hd.part_n, Hd.part_far, Hd.part, Hd.c_length, I16.c_length, hrows_length, hrows_getD, h1, h2, hw]
          repeat' (first | (refine SIf.split (fun hp => ?_) (fun hp => ?_) <;> simp -dsimp (decide := true) (maxSteps := 1000000) (disch := first | omega | simp (decide := true) only [bdset_a, Hd.one, Hd.c_length, I16.c_length, I16.one, I16.flat, Hd.flat, hrows.flat, hrows_length]) only [brun_a, ↓brun_b, envOf, reduceIte, Nat.reduceEqDiff, Nat.reduceAdd, Nat.reduceSub, Nat.reduceMul, Nat.reduceBEq, Nat.reduceLeDiff, Nat.reduceLT, beq_self_eq_true, cond_true, cond_false, Int.reduceToNat, tab.u2, tab.s2, tab.a2, tab.u3, tab.s3, tab.a3, tab.u5, tab.s5, tab.a5, tab.u23, tab.s23, tab.a23, tab.u24, tab.s24, tab.a24, tab.u26, tab.s26, tab.a26, tab.f26x0, tab.f26x1, tab.f26x2, I16.part, Hd.part_id, Hd.part_n, Hd.part_far, Hd.part, Hd.c_length, I16.c_length, hrows_length, hrows_getD, hw, sBin_agg .eql 23 _ _ _ (I16.cellsEq _ _), hp]) | (refine SCond.split (fun hp => ?_) (fun hp => ?_) <;> simp -dsimp (decide := true) (maxSteps := 1000000) (disch := first | omega | simp (decide := true) only [bdset_a, Hd.one, Hd.c_length, I16.c_length, I16.one, I16.flat, Hd.flat, hrows.flat, hrows_length]) only [brun_a, ↓brun_b, envOf, reduceIte, Nat.reduceEqDiff, Nat.reduceAdd, Nat.reduceSub, Nat.reduceMul, Nat.reduceBEq, Nat.reduceLeDiff, Nat.reduceLT, beq_self_eq_true, cond_true, cond_false, Int.reduceToNat, tab.u2, tab.s2, tab.a2, tab.u3, tab.s3, tab.a3, tab.u5, tab.s5, tab.a5, tab.u23, tab.s23, tab.a23, tab.u24, tab.s24, tab.a24, tab.u26, tab.s26, tab.a26, tab.f26x0, tab.f26x1, tab.f26x2, I16.part, Hd.part_id, Hd.part_n, Hd.part_far, Hd.part, Hd.c_length, I16.c_length, hrows_length, hrows_getD, hw, sBin_agg .eql 23 _ _ _ (I16.cellsEq _ _)]) | (refine And.intro (flat23 _ _) ?_) | (fail))
          all_goals exact fin _ _ _ (by rw [hst]; simp_all [tells] <;> (intro _; omega)) rfl rfl rfl rfl rfl rfl
      · simp -dsimp (decide := true) (maxSteps := 1000000) (disch := first | omega | simp (decide := true) only [bdset_a, Hd.one, Hd.c_length, I16.c_length, I16.one, I16.flat, Hd.flat, hrows.flat, hrows_length]) only [brun_a, ↓brun_b, envOf, reduceIte, Nat.reduceEqDiff, Nat.reduceAdd, Nat.reduceSub, Nat.reduceMul, Nat.reduceBEq, Nat.reduceLeDiff, Nat.reduceLT, beq_self_eq_true, cond_true, cond_false, Int.reduceToNat, tab.u2, tab.s2, tab.a2, tab.u3, tab.s3, tab.a3, tab.u5, tab.s5, tab.a5, tab.u23, tab.s23, tab.a23, tab.u24, tab.s24, tab.a24, tab.u26, tab.s26, tab.a26, tab.f26x0, tab.f26x1, tab.f26x2, I16.part, Hd.part_id, Hd.part_n, Hd.part_far, Hd.part, Hd.c_length, I16.c_length, hrows_length, hrows_getD, h1, hw]
        repeat' (first | (refine SIf.split (fun hp => ?_) (fun hp => ?_) <;> simp -dsimp (decide := true) (maxSteps := 1000000) (disch := first | omega | simp (decide := true) only [bdset_a, Hd.one, Hd.c_length, I16.c_length, I16.one, I16.flat, Hd.flat, hrows.flat, hrows_length]) only [brun_a, ↓brun_b, envOf, reduceIte, Nat.reduceEqDiff, Nat.reduceAdd, Nat.reduceSub, Nat.reduceMul, Nat.reduceBEq, Nat.reduceLeDiff, Nat.reduceLT, beq_self_eq_true, cond_true, cond_false, Int.reduceToNat, tab.u2, tab.s2, tab.a2, tab.u3, tab.s3, tab.a3, tab.u5, tab.s5, tab.a5, tab.u23, tab.s23, tab.a23, tab.u24, tab.s24, tab.a24, tab.u26, tab.s26, tab.a26, tab.f26x0, tab.f26x1, tab.f26x2, I16.part, Hd.part_id, Hd.part_n, Hd.part_far, Hd.part, Hd.c_length, I16.c_length, hrows_length, hrows_getD, hw, sBin_agg .eql 23 _ _ _ (I16.cellsEq _ _), hp]) | (refine SCond.split (fun hp => ?_) (fun hp => ?_) <;> simp -dsimp (decide := true) (maxSteps := 1000000) (disch := first | omega | simp (decide := true) only [bdset_a, Hd.one, Hd.c_length, I16.c_length, I16.one, I16.flat, Hd.flat, hrows.flat, hrows_length]) only [brun_a, ↓brun_b, envOf, reduceIte, Nat.reduceEqDiff, Nat.reduceAdd, Nat.reduceSub, Nat.reduceMul, Nat.reduceBEq, Nat.reduceLeDiff, Nat.reduceLT, beq_self_eq_true, cond_true, cond_false, Int.reduceToNat, tab.u2, tab.s2, tab.a2, tab.u3, tab.s3, tab.a3, tab.u5, tab.s5, tab.a5, tab.u23, tab.s23, tab.a23, tab.u24, tab.s24, tab.a24, tab.u26, tab.s26, tab.a26, tab.f26x0, tab.f26x1, tab.f26x2, I16.part, Hd.part_id, Hd.part_n, Hd.part_far, Hd.part, Hd.c_length, I16.c_length, hrows_length, hrows_getD, hw, sBin_agg .eql 23 _ _ _ (I16.cellsEq _ _)]) | (refine And.intro (flat23 _ _) ?_) | (fail))
        all_goals exact fin _ _ _ (by rw [hst]; simp_all [tells] <;> (intro _; omega)) rfl rfl rfl rfl rfl rfl
    · simp -dsimp (decide := true) (maxSteps := 1000000) (disch := first | omega | simp (decide := true) only [bdset_a, Hd.one, Hd.c_length, I16.c_length, I16.one, I16.flat, Hd.flat, hrows.flat, hrows_length]) only [brun_a, ↓brun_b, envOf, reduceIte, Nat.reduceEqDiff, Nat.reduceAdd, Nat.reduceSub, Nat.reduceMul, Nat.reduceBEq, Nat.reduceLeDiff, Nat.reduceLT, beq_self_eq_true, cond_true, cond_false, Int.reduceToNat, tab.u2, tab.s2, tab.a2, tab.u3, tab.s3, tab.a3, tab.u5, tab.s5, tab.a5, tab.u23, tab.s23, tab.a23, tab.u24, tab.s24, tab.a24, tab.u26, tab.s26, tab.a26, tab.f26x0, tab.f26x1, tab.f26x2, I16.part, Hd.part_id, Hd.part_n, Hd.part_far, Hd.part, Hd.c_length, I16.c_length, hrows_length, hrows_getD]
      simp only [decide_eq_false_iff_not] at h
      obtain rfl : k = hs.length := by omega
      refine SemOps.callq (k := 1000) cal.f40 (fixed_calls) rfl rfl rfl rfl (by simp only [bflat_a, I16.flat, Hd.flat, hrows.flat]) (by simp only [bflat_a, I16.flat, Hd.flat, hrows.flat]) (by simp -dsimp (decide := true) (maxSteps := 1000000) (disch := first | omega | simp (decide := true) only [bdset_a, Hd.one, Hd.c_length, I16.c_length, I16.one, I16.flat, Hd.flat, hrows.flat, hrows_length]) only [brun_a, ↓brun_b, envOf, reduceIte, Nat.reduceEqDiff, Nat.reduceAdd, Nat.reduceSub, Nat.reduceMul, Nat.reduceBEq, Nat.reduceLeDiff, Nat.reduceLT, beq_self_eq_true, cond_true, cond_false, Int.reduceToNat, tab.u2, tab.s2, tab.a2, tab.u3, tab.s3, tab.a3, tab.u5, tab.s5, tab.a5, tab.u23, tab.s23, tab.a23, tab.u24, tab.s24, tab.a24, tab.u26, tab.s26, tab.a26, tab.f26x0, tab.f26x1, tab.f26x2]) ?_
      simp -dsimp (decide := true) (maxSteps := 1000000) (disch := first | omega | simp (decide := true) only [bdset_a, Hd.one, Hd.c_length, I16.c_length, I16.one, I16.flat, Hd.flat, hrows.flat, hrows_length]) only [brun_a, ↓brun_b, envOf, reduceIte, Nat.reduceEqDiff, Nat.reduceAdd, Nat.reduceSub, Nat.reduceMul, Nat.reduceBEq, Nat.reduceLeDiff, Nat.reduceLT, beq_self_eq_true, cond_true, cond_false, Int.reduceToNat, tab.u2, tab.s2, tab.a2, tab.u3, tab.s3, tab.a3, tab.u5, tab.s5, tab.a5, tab.u23, tab.s23, tab.a23, tab.u24, tab.s24, tab.a24, tab.u26, tab.s26, tab.a26, tab.f26x0, tab.f26x1, tab.f26x2, List.take_length, told_true]
      refine SQ.answer (rs := [.tmp 4]) rfl rfl ?_
      simp -dsimp (decide := true) (maxSteps := 1000000) (disch := first | omega | simp (decide := true) only [bdset_a, Hd.one, Hd.c_length, I16.c_length, I16.one, I16.flat, Hd.flat, hrows.flat, hrows_length]) only [brun_a, ↓brun_b, envOf, reduceIte, Nat.reduceEqDiff, Nat.reduceAdd, Nat.reduceSub, Nat.reduceMul, Nat.reduceBEq, Nat.reduceLeDiff, Nat.reduceLT, beq_self_eq_true, cond_true, cond_false, Int.reduceToNat, tab.u2, tab.s2, tab.a2, tab.u3, tab.s3, tab.a3, tab.u5, tab.s5, tab.a5, tab.u23, tab.s23, tab.a23, tab.u24, tab.s24, tab.a24, tab.u26, tab.s26, tab.a26, tab.f26x0, tab.f26x1, tab.f26x2, bwk_a, frz1, eq_self, implies_true, rho, ↓reduceIte, forall_const]
theorem repLeast_law (l0 l1 : List SV) (h0 : ClsC Try.prog 20 23 l0) (h1 : ClsC Try.prog 20 24 l1) : Pure Try.prog 4 [.agg l0, cellAt l1 0] (.v (.bool true)) := by
  obtain ⟨a, rfl⟩ := cls_id h0
  obtain ⟨hs, rfl, hb⟩ := cls_hds h1
  exact least_calls a hs (by simp only [reachBytes] at hb; omega)
end Go.Proofs
