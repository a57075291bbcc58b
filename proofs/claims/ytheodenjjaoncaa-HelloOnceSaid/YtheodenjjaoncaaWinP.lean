/- Contracts of functions that the laws reach, on abstract values, and what they need: no conditions but those that each theorem states. -/
import Derived.Test.YtheodenjjaoncaaWirR
import Derived.Test.YtheodenjjaoncaaSlY
set_option linter.unusedVariables false
set_option linter.unusedSimpArgs false
set_option linter.defProp false
namespace Go.Proofs
open Go Go.SL
set_option maxRecDepth 100000
end Go.Proofs
namespace Go.Proofs
open Go Go.SL
set_option maxRecDepth 100000
theorem build197 (x : Int) : sBuild Try.prog 197 [(0, .v (.int .i64 x))] = some ⟨.agg [.v (.int .i64 x), .v (.slice none 0 0), .v (.int .i64 0)], {}, True⟩ := by
  rw [sBuild_eq, tab.z197, tab.l197]
  rfl
def winpc0 :=
  (And.intro (And.intro (And.intro (And.intro @beq_self_eq_true.{0} @brun_a) (And.intro @cond_false.{1} @cond_true.{1})) (And.intro (And.intro @tab.a2 @tab.a35) (And.intro @tab.a44 (And.intro @tab.a5 @tab.f197x0)))) (And.intro (And.intro (And.intro @tab.f197x1 @tab.f197x2) (And.intro @tab.s2 (And.intro @tab.s35 @tab.s44))) (And.intro (And.intro @tab.s5 @tab.u2) (And.intro @tab.u35 (And.intro @tab.u44 @tab.u5)))))
def winpb0 :=
  (And.intro winpc0 @build197)
def winpb1 :=
  (And.intro (And.intro winpc0 (And.intro @bwk_a @eq_self.{1})) (And.intro @forall_const.{1} (And.intro @implies_true.{0} @implies_true.{1})))
theorem new_win : SCall Try.prog 48 [] [] fun r L => r = .ret (.ptr 0 0 0) ∧ L = [some (.row ⟨3, 1, true, 197, fun _ => [.v (.int .i64 1), .v (.slice none 0 0), .v (.int .i64 0)]⟩)] := by
  refine SCall.mk (fn := Try.f48) (by kernel_rfl) rfl (Nat.le_of_ble_eq_true (by kernel_rfl)) ?_
  refine Sem.go (k := 1000) ?_
  simp -dsimp (decide := true) (maxSteps := 1000000) (disch := first | omega | simp (decide := true) only [bdset_a]) only [winpb0, ↓brun_b, envOf, reduceIte, Nat.reduceEqDiff, Nat.reduceAdd, Nat.reduceSub, Nat.reduceMul, Nat.reduceBEq, Nat.reduceLeDiff, Nat.reduceLT, Int.reduceToNat]
  refine SQ.runL (rs := [.tmp 0]) [0] _ _ rfl (And.intro rfl rfl) (by decide) rfl rfl ?_ ?_
  · simp -dsimp (decide := true) (maxSteps := 1000000) (disch := first | omega | simp (decide := true) only [bdset_a]) only [winpb1, ↓brun_b, envOf, reduceIte, Nat.reduceEqDiff, Nat.reduceAdd, Nat.reduceSub, Nat.reduceMul, Nat.reduceBEq, Nat.reduceLeDiff, Nat.reduceLT, Int.reduceToNat, frz1, rho, ↓reduceIte]
  · simp -dsimp (decide := true) (maxSteps := 1000000) (disch := first | omega | simp (decide := true) only [bdset_a]) only [winpb1, ↓brun_b, envOf, reduceIte, Nat.reduceEqDiff, Nat.reduceAdd, Nat.reduceSub, Nat.reduceMul, Nat.reduceBEq, Nat.reduceLeDiff, Nat.reduceLT, Int.reduceToNat, frz1, rho, ↓reduceIte]
end Go.Proofs
namespace Go.Proofs
open Go Go.SL
set_option maxRecDepth 100000
theorem bs44s (N b n : Nat) : sBuildSlice Try.prog N 44 1 [(0, .slc b 0 n)] = some ⟨.slc N 0 1, ⟨none, some (.row ⟨1, 1, true, 35, fun e => (([.slc b 0 n] : List SV).drop (e * 1)).take 1⟩)⟩, True⟩ :=
  buildSlice_one tab.u44 tab.s35 tab.z35 (by decide) rfl (by decide) [.slc b 0 n] _ rfl rfl rfl
theorem bs44_0 (N : Nat) : sBuildSlice Try.prog N 44 0 [] = some ⟨.slc N 0 0, ⟨none, some (.row ⟨1, 0, true, 35, fun e => (([] : List SV).drop (e * 1)).take 1⟩)⟩, True⟩ := by kernel_rfl
theorem el35 : ElTy Try.prog 35 1 24 := ⟨tab.s35, tab.b35, ⟨_, tab.z35, rfl⟩, by decide, by decide⟩
theorem trow_flat (ts : List (List UInt8)) (k : Nat) : SV.flatL (trow ts k) = true := by simp only [trow, flatL_cons, flatL_nil, flat_rsl, flatR_brows, Bool.and_self]
theorem ent_send {L : List (Option SK)} {l : List Nat} {L' : List (Option SK)} {ρ : Nat → Nat} {b : Nat} {ty : TypeId} {el : Nat → List SV} (ts : List (List UInt8)) (t : List UInt8) (e : Nat) (h : getL L b = some (.row ⟨1, t.length, true, ty, el⟩)) (hk : keptB l L' b = false) (hel : ∀ i, i < t.length → el i = brow t i) (he : e < ts.length + 1) :
    EntL (fzOf L l L') ρ (trow (ts ++ [t]) e) (if e < ts.length then trow ts e else List.take 1 (List.drop (e - ts.length) [.slc b 0 t.length])) := by
  split
  · rename_i h1
    have : trow (ts ++ [t]) e = trow ts e := by simp [trow, List.getD_eq_getElem?_getD, List.getElem?_append_left h1]
    rw [this]
    exact EntL.self (trow_flat _ _)
  · rename_i h1
    obtain rfl : e = ts.length := by omega
    have : trow (ts ++ [t]) ts.length = [bsl t] := by simp [trow, List.getD_eq_getElem?_getD]
    rw [this, Nat.sub_self]
    refine ⟨_, _, rfl, Ent_row h hk (brows_length t).symm (by omega) fun i r hr => ?_, rfl⟩
    have hi : i < t.length := by
      rcases Nat.lt_or_ge i t.length with h | h
      · exact h
      · rw [List.getElem?_eq_none (by rw [brows_length]; exact h)] at hr; cases hr
    rw [Nat.zero_add, hel i hi]
    have h2 := brows_at t i hi
    rw [List.getD_eq_getElem?_getD, hr] at h2
    rw [show r = brow t i from h2]
    exact EntL.self (brow_flat _ _)
theorem copy_el (t : List UInt8) (i : Nat) (h : i < t.length) : (if i < 0 then List.take 1 [] else (brows t).getD (i - 0) []) = brow t i := by
  rw [if_neg (by omega), Nat.sub_zero, brows_at t i h]
def winpc1 :=
  (And.intro (And.intro (And.intro @SKren_row @after_mk) (And.intro @mergeL_done @mergeL_own)) (And.intro (And.intro @mergeL_row @renL_cons) (And.intro @renL_flat @renL_nil)))
def winpc2 :=
  (And.intro (And.intro @cellAt_succ (And.intro @cellAt_zero @tab.a50)) (And.intro (And.intro @tab.s50 @tab.u50) (And.intro @trow_cell @trow_len)))
def winpb2 :=
  (And.intro winpc1 (And.intro winpc0 winpc2))
def winpb3 :=
  (And.intro (And.intro (And.intro @List.length_cons.{0} @List.length_nil.{0}) (And.intro @Nat.zero_add @roL_in)) (And.intro (And.intro @roL_nil @roL_none) (And.intro @roL_row @ro_mk)))
def winpb4 :=
  (And.intro (And.intro (And.intro winpc1 winpc0) (And.intro winpc2 @bwk_a)) (And.intro (And.intro @eq_self.{1} @forall_const.{1}) (And.intro @implies_true.{0} @implies_true.{1})))
def winpb5 :=
  (And.intro (And.intro winpc1 winpc0) (And.intro winpc2 (And.intro @bs35_0 @bs44s)))
theorem send_calls (base : Nat) (got : Int) (ts : List (List UInt8)) (t : List UInt8) (h0 : base + ts.length < 4611686018427387904) (h1 : (ts.length + 1) * 24 ≤ 140737488355328) (h2 : t.length ≤ 140737488355328) :
    SCall Try.prog 50 [.ptr 0 0 0, bsl t] [some (.row ⟨3, 1, true, 197, fun _ => [.v (.int .i64 (base : Int)), .slc 1 0 ts.length, .v (.int .i64 got)]⟩), some (.row ⟨1, ts.length, true, 35, trow ts⟩)]
      fun r L => r = .ret (.tup [.v (.int .i64 ((base + ts.length : Nat) : Int)), .v (.int .i64 0)]) ∧ L = [some (.row ⟨3, 1, true, 197, fun _ => [.v (.int .i64 (base : Int)), .slc 2 0 (ts.length + 1), .v (.int .i64 got)]⟩), none, some (.row ⟨1, ts.length + 1, true, 35, trow (ts ++ [t])⟩)] := by
  refine SCall.mk (fn := Try.f50) (by kernel_rfl) rfl (Nat.le_of_ble_eq_true (by kernel_rfl)) ?_
  refine Sem.go (k := 1000) ?_
  simp -dsimp (decide := true) (maxSteps := 1000000) (disch := first | omega | simp (decide := true) only [bdset_a, brow_flat, trow_len, trow_flat, trows_flat, trows_length]) only [winpb2, ↓brun_b, envOf, reduceIte, Nat.reduceEqDiff, Nat.reduceAdd, Nat.reduceSub, Nat.reduceMul, Nat.reduceBEq, Nat.reduceLeDiff, Nat.reduceLT, Int.reduceToNat, splice, List.take_succ_cons, List.take_zero, List.drop_succ_cons, List.drop_zero, List.drop_nil]
  refine Sem.draw' (by kernel_rfl) (.one 0 (.one 1 (.one 2 (.one 3 (.one 6 (.alt 4 (.alt 5 (.alt 7 (.alt 8 (.alt 9 (.one 10 (.one 11 (.alt 12 .done .non))) .non) .non) .non) .non) (.alt 5 (.alt 4 (.alt 7 (.alt 8 (.alt 9 (.one 10 (.one 11 (.alt 12 .done .non))) .non) .non) .non) (.alt 7 (.alt 4 (.alt 8 (.alt 9 (.one 10 (.one 11 (.alt 12 .done .non))) .non) .non) (.alt 8 (.alt 4 (.alt 9 (.one 10 (.one 11 (.alt 12 .done .non))) .non) .non) .non)) .non)) .non))))))) [0, 1] (by kernel_rfl) (fun G ff hG hf => ?_)
  simp (decide := true) only [winpb3, Nat.reduceAdd] at hG ⊢
  have hf2 := fun hc s' l wk => hf s' (Sem.weaken (s' := ⟨31, 2, [(0, .ptr 0 0 0)], [some (.row ⟨3, 1, true, 197, fun _ => [.v (.int .i64 (base : Int)), .slc 2 0 (ts.length + 1), .v (.int .i64 got)]⟩), none, some (.row ⟨1, ts.length + 1, true, 35, trow (ts ++ [t])⟩)]⟩) l wk hc)
  replace hf2 := hf2 (by
    refine Sem.go (k := 1000) ?_
    simp -dsimp (decide := true) (maxSteps := 1000000) (disch := first | omega | simp (decide := true) only [bdset_a, brow_flat, trow_len, trow_flat, trows_flat, trows_length]) only [winpb2, ↓brun_b, envOf, reduceIte, Nat.reduceEqDiff, Nat.reduceAdd, Nat.reduceSub, Nat.reduceMul, Nat.reduceBEq, Nat.reduceLeDiff, Nat.reduceLT, Int.reduceToNat, splice, List.take_succ_cons, List.take_zero, List.drop_succ_cons, List.drop_zero, List.drop_nil]
    refine Sem.draw' (by kernel_rfl) (.one 0 (.one 1 (.one 2 (.one 3 (.one 4 (.one 5 (.one 6 (.one 7 (.one 8 (.one 9 (.one 10 (.one 11 (.one 12 .done))))))))))))) [] (by kernel_rfl) (fun G ff hG hf => ?_)
    simp (decide := true) only [winpb3, Nat.reduceAdd] at hG ⊢
    have hw1 : IntKind.i64.wrap ((base : Int) + ((ts.length + 1 : Nat) : Int)) = ((base + ts.length + 1 : Nat) : Int) := by rw [wrap_i64 _ (by omega)]; omega
    have hw2 : IntKind.i64.wrap (((base + ts.length + 1 : Nat) : Int) - 1) = ((base + ts.length : Nat) : Int) := by rw [wrap_i64 _ (by omega)]; omega
    simp -dsimp (decide := true) (maxSteps := 1000000) (disch := first | omega | simp (decide := true) only [bdset_a, brow_flat, trow_len, trow_flat, trows_flat, trows_length]) only [winpb2, ↓brun_b, envOf, reduceIte, Nat.reduceEqDiff, Nat.reduceAdd, Nat.reduceSub, Nat.reduceMul, Nat.reduceBEq, Nat.reduceLeDiff, Nat.reduceLT, Int.reduceToNat, splice, List.take_succ_cons, List.take_zero, List.drop_succ_cons, List.drop_zero, List.drop_nil, hG, hw1, hw2]
    refine hf _ (Sem.go (k := 1000) ?_)
    simp (decide := true) only [back_mk, backL_in, backL_row, backL_none, backL_nil, Nat.zero_add, Nat.reduceAdd]
    simp -dsimp (decide := true) (maxSteps := 1000000) (disch := first | omega | simp (decide := true) only [bdset_a, brow_flat, trow_len, trow_flat, trows_flat, trows_length]) only [winpb2, ↓brun_b, envOf, reduceIte, Nat.reduceEqDiff, Nat.reduceAdd, Nat.reduceSub, Nat.reduceMul, Nat.reduceBEq, Nat.reduceLeDiff, Nat.reduceLT, Int.reduceToNat, splice, List.take_succ_cons, List.take_zero, List.drop_succ_cons, List.drop_zero, List.drop_nil]
    refine SQ.runL (rs := [.tmp 4, .tmp 5]) [0, 1, 2] _ _ rfl (And.intro rfl rfl) (by decide) rfl rfl ?_ ?_
    · simp -dsimp (decide := true) (maxSteps := 1000000) (disch := first | omega | simp (decide := true) only [bdset_a, brow_flat, trow_len, trow_flat, trows_flat, trows_length]) only [winpb4, ↓brun_b, envOf, reduceIte, Nat.reduceEqDiff, Nat.reduceAdd, Nat.reduceSub, Nat.reduceMul, Nat.reduceBEq, Nat.reduceLeDiff, Nat.reduceLT, Int.reduceToNat, splice, List.take_succ_cons, List.take_zero, List.drop_succ_cons, List.drop_zero, List.drop_nil, frz1, rho, ↓reduceIte]
    · simp -dsimp (decide := true) (maxSteps := 1000000) (disch := first | omega | simp (decide := true) only [bdset_a, brow_flat, trow_len, trow_flat, trows_flat, trows_length]) only [winpb4, ↓brun_b, envOf, reduceIte, Nat.reduceEqDiff, Nat.reduceAdd, Nat.reduceSub, Nat.reduceMul, Nat.reduceBEq, Nat.reduceLeDiff, Nat.reduceLT, Int.reduceToNat, splice, List.take_succ_cons, List.take_zero, List.drop_succ_cons, List.drop_zero, List.drop_nil, frz1, rho, ↓reduceIte])
  simp -dsimp (decide := true) (maxSteps := 1000000) (disch := first | omega | simp (decide := true) only [bdset_a, brow_flat, trow_len, trow_flat, trows_flat, trows_length]) only [winpb5, ↓brun_b, envOf, reduceIte, Nat.reduceEqDiff, Nat.reduceAdd, Nat.reduceSub, Nat.reduceMul, Nat.reduceBEq, Nat.reduceLeDiff, Nat.reduceLT, Int.reduceToNat, splice, List.take_succ_cons, List.take_zero, List.drop_succ_cons, List.drop_zero, List.drop_nil, hG, sapp1_sl el5, sapp1_sl el35, h1, h2, Nat.le_refl]
  repeat' (first | (refine And.intro ?_ ?_) | (refine hf2 _ [0, 1, 5] ?_; simp (decide := true) only [back_mk, backL_in, backL_row, backL_none, backL_nil, Nat.zero_add, Nat.reduceAdd]; (refine Wk.ofC ?_; simp -dsimp (decide := true) (maxSteps := 1000000) (disch := first | omega | simp (decide := true) only [bdset_a, brow_flat, trow_len, trow_flat, trows_flat, trows_length]) only [winpb4, ↓brun_b, envOf, reduceIte, Nat.reduceEqDiff, Nat.reduceAdd, Nat.reduceSub, Nat.reduceMul, Nat.reduceBEq, Nat.reduceLeDiff, Nat.reduceLT, Int.reduceToNat, splice, List.take_succ_cons, List.take_zero, List.drop_succ_cons, List.drop_zero, List.drop_nil, frz1, rho, ↓reduceIte]); exact fun e he => ent_send ts t e rfl rfl (copy_el t) he))
theorem wrap_pred (n : Int) (got : Nat) (h1 : -9223372036854775808 ≤ n) (h2 : n < 9223372036854775808) (h3 : (got : Int) < 4611686018427387904) : decide (IntKind.i64.wrap (n - 1) = (got : Int)) = decide (n = (got : Int) + 1) := by
  rw [decide_eq_decide]
  by_cases h : n = -9223372036854775808
  · subst h
    constructor
    · intro h
      have : IntKind.i64.wrap (-9223372036854775808 - 1) = 9223372036854775807 := by decide
      rw [this] at h
      omega
    · intro h; omega
  · rw [wrap_i64 _ (by omega)]
    omega
theorem came_calls (base : Int) (n : Int) (got : Nat) (k : Nat) (el : Nat → List SV) (hn : -9223372036854775808 ≤ n) (hn2 : n < 9223372036854775808) (hg : (got : Int) < 4611686018427387904) :
    SCall Try.prog 54 [.ptr 0 0 0, .v (.int .i64 n)] [some (.row ⟨3, 1, true, 197, fun _ => [.v (.int .i64 base), .slc 1 0 k, .v (.int .i64 (got : Int))]⟩), some (.row ⟨1, k, false, 35, el⟩)]
      fun r L => r = .ret (.v (.bool (decide (n = (got : Int) + 1)))) ∧ L = [some (.row ⟨3, 1, true, 197, fun _ => [.v (.int .i64 base), .slc 1 0 k, .v (.int .i64 ((if n = (got : Int) + 1 then got + 1 else got : Nat) : Int))]⟩), none] := by
  have hp := wrap_pred n got hn hn2 hg
  refine SCall.mk (fn := Try.f54) (by kernel_rfl) rfl (Nat.le_of_ble_eq_true (by kernel_rfl)) ?_
  refine Sem.go (k := 1000) ?_
  simp -dsimp (decide := true) (maxSteps := 1000000) (disch := first | omega | simp (decide := true) only [bdset_a, brow_flat, trow_len, trow_flat, trows_flat, trows_length]) only [winpb2, ↓brun_b, envOf, reduceIte, Nat.reduceEqDiff, Nat.reduceAdd, Nat.reduceSub, Nat.reduceMul, Nat.reduceBEq, Nat.reduceLeDiff, Nat.reduceLT, Int.reduceToNat, splice, List.take_succ_cons, List.take_zero, List.drop_succ_cons, List.drop_zero, List.drop_nil, hp]
  refine SCond.split (fun h => ?_) (fun h => ?_)
  · simp only [Bool.not_eq_true', decide_eq_false_iff_not] at h
    simp -dsimp (decide := true) (maxSteps := 1000000) (disch := first | omega | simp (decide := true) only [bdset_a, brow_flat, trow_len, trow_flat, trows_flat, trows_length]) only [winpb2, ↓brun_b, envOf, reduceIte, Nat.reduceEqDiff, Nat.reduceAdd, Nat.reduceSub, Nat.reduceMul, Nat.reduceBEq, Nat.reduceLeDiff, Nat.reduceLT, Int.reduceToNat, splice, List.take_succ_cons, List.take_zero, List.drop_succ_cons, List.drop_zero, List.drop_nil, if_neg h, decide_eq_false h]
    refine SQ.runL (rs := [.tmp 4]) [0, 1] _ _ rfl (And.intro rfl rfl) (by decide) rfl rfl ?_ ?_
    · simp -dsimp (decide := true) (maxSteps := 1000000) (disch := first | omega | simp (decide := true) only [bdset_a, brow_flat, trow_len, trow_flat, trows_flat, trows_length]) only [winpb4, ↓brun_b, envOf, reduceIte, Nat.reduceEqDiff, Nat.reduceAdd, Nat.reduceSub, Nat.reduceMul, Nat.reduceBEq, Nat.reduceLeDiff, Nat.reduceLT, Int.reduceToNat, splice, List.take_succ_cons, List.take_zero, List.drop_succ_cons, List.drop_zero, List.drop_nil, frz1, rho, ↓reduceIte]
    · simp -dsimp (decide := true) (maxSteps := 1000000) (disch := first | omega | simp (decide := true) only [bdset_a, brow_flat, trow_len, trow_flat, trows_flat, trows_length]) only [winpb4, ↓brun_b, envOf, reduceIte, Nat.reduceEqDiff, Nat.reduceAdd, Nat.reduceSub, Nat.reduceMul, Nat.reduceBEq, Nat.reduceLeDiff, Nat.reduceLT, Int.reduceToNat, splice, List.take_succ_cons, List.take_zero, List.drop_succ_cons, List.drop_zero, List.drop_nil, frz1, rho, ↓reduceIte]
  · simp only [Bool.not_eq_false', decide_eq_true_eq] at h
    have hw : IntKind.i64.wrap ((got : Int) + 1) = ((got + 1 : Nat) : Int) := by rw [wrap_i64 _ (by omega)]; rfl
    simp -dsimp (decide := true) (maxSteps := 1000000) (disch := first | omega | simp (decide := true) only [bdset_a, brow_flat, trow_len, trow_flat, trows_flat, trows_length]) only [winpb2, ↓brun_b, envOf, reduceIte, Nat.reduceEqDiff, Nat.reduceAdd, Nat.reduceSub, Nat.reduceMul, Nat.reduceBEq, Nat.reduceLeDiff, Nat.reduceLT, Int.reduceToNat, splice, List.take_succ_cons, List.take_zero, List.drop_succ_cons, List.drop_zero, List.drop_nil, if_pos h, decide_eq_true h, hw]
    refine SQ.runL (rs := [.tmp 4]) [0, 1] _ _ rfl (And.intro rfl rfl) (by decide) rfl rfl ?_ ?_
    · simp -dsimp (decide := true) (maxSteps := 1000000) (disch := first | omega | simp (decide := true) only [bdset_a, brow_flat, trow_len, trow_flat, trows_flat, trows_length]) only [winpb4, ↓brun_b, envOf, reduceIte, Nat.reduceEqDiff, Nat.reduceAdd, Nat.reduceSub, Nat.reduceMul, Nat.reduceBEq, Nat.reduceLeDiff, Nat.reduceLT, Int.reduceToNat, splice, List.take_succ_cons, List.take_zero, List.drop_succ_cons, List.drop_zero, List.drop_nil, frz1, rho, ↓reduceIte]
    · simp -dsimp (decide := true) (maxSteps := 1000000) (disch := first | omega | simp (decide := true) only [bdset_a, brow_flat, trow_len, trow_flat, trows_flat, trows_length]) only [winpb4, ↓brun_b, envOf, reduceIte, Nat.reduceEqDiff, Nat.reduceAdd, Nat.reduceSub, Nat.reduceMul, Nat.reduceBEq, Nat.reduceLeDiff, Nat.reduceLT, Int.reduceToNat, splice, List.take_succ_cons, List.take_zero, List.drop_succ_cons, List.drop_zero, List.drop_nil, frz1, rho, ↓reduceIte]
theorem got_calls (base got : Int) (k : Nat) (el : Nat → List SV) :
    SCall Try.prog 59 [.ptr 0 0 0] [some (.row ⟨3, 1, false, 197, fun _ => [.v (.int .i64 base), .slc 1 0 k, .v (.int .i64 got)]⟩), some (.row ⟨1, k, false, 35, el⟩)]
      fun r L => r = .ret (.v (.int .i64 got)) ∧ L = [none, none] := by
  refine SCall.mk (fn := Try.f59) (by kernel_rfl) rfl (Nat.le_of_ble_eq_true (by kernel_rfl)) ?_
  refine Sem.go (k := 1000) ?_
  simp -dsimp (decide := true) (maxSteps := 1000000) (disch := first | omega | simp (decide := true) only [bdset_a, brow_flat, trow_len, trow_flat, trows_flat, trows_length]) only [winpb2, ↓brun_b, envOf, reduceIte, Nat.reduceEqDiff, Nat.reduceAdd, Nat.reduceSub, Nat.reduceMul, Nat.reduceBEq, Nat.reduceLeDiff, Nat.reduceLT, Int.reduceToNat, splice, List.take_succ_cons, List.take_zero, List.drop_succ_cons, List.drop_zero, List.drop_nil]
  refine SQ.runL (rs := [.tmp 2]) [0, 1] _ _ rfl (And.intro rfl rfl) (by decide) rfl rfl ?_ ?_
  · simp -dsimp (decide := true) (maxSteps := 1000000) (disch := first | omega | simp (decide := true) only [bdset_a, brow_flat, trow_len, trow_flat, trows_flat, trows_length]) only [winpb4, ↓brun_b, envOf, reduceIte, Nat.reduceEqDiff, Nat.reduceAdd, Nat.reduceSub, Nat.reduceMul, Nat.reduceBEq, Nat.reduceLeDiff, Nat.reduceLT, Int.reduceToNat, splice, List.take_succ_cons, List.take_zero, List.drop_succ_cons, List.drop_zero, List.drop_nil, frz1, rho, ↓reduceIte]
  · simp -dsimp (decide := true) (maxSteps := 1000000) (disch := first | omega | simp (decide := true) only [bdset_a, brow_flat, trow_len, trow_flat, trows_flat, trows_length]) only [winpb4, ↓brun_b, envOf, reduceIte, Nat.reduceEqDiff, Nat.reduceAdd, Nat.reduceSub, Nat.reduceMul, Nat.reduceBEq, Nat.reduceLeDiff, Nat.reduceLT, Int.reduceToNat, splice, List.take_succ_cons, List.take_zero, List.drop_succ_cons, List.drop_zero, List.drop_nil, frz1, rho, ↓reduceIte]
end Go.Proofs
namespace Go.Proofs
open Go Go.SL
set_option maxRecDepth 100000
def winpb6 :=
  (And.intro winpc0 winpc2)
def winpb7 :=
  (And.intro (And.intro winpc0 (And.intro winpc2 @bwk_a)) (And.intro (And.intro @eq_self.{1} @forall_const.{1}) (And.intro @implies_true.{0} @implies_true.{1})))
theorem acked_no (base : Nat) (got n : Int) (k : Nat) (el : Nat → List SV) (hn : -9223372036854775808 ≤ n) (hn2 : n < 9223372036854775808) (h0 : base + k < 4611686018427387904) (h : n < base ∨ (base : Int) + k ≤ n) :
    SCall Try.prog 52 [.ptr 0 0 0, .v (.int .i64 n)] [some (.row ⟨3, 1, false, 197, fun _ => [.v (.int .i64 (base : Int)), .slc 1 0 k, .v (.int .i64 got)]⟩), some (.row ⟨1, k, false, 35, el⟩)]
      fun r L => r = .ret (.v (.int .i64 0)) ∧ L = [none, none] := by
  refine SCall.mk (fn := Try.f52) (by kernel_rfl) rfl (Nat.le_of_ble_eq_true (by kernel_rfl)) ?_
  refine Sem.go (k := 1000) ?_
  simp -dsimp (decide := true) (maxSteps := 1000000) (disch := first | omega | simp (decide := true) only [bdset_a, brow_flat, trow_len, trow_flat, trows_flat, trows_length]) only [winpb6, ↓brun_b, envOf, reduceIte, Nat.reduceEqDiff, Nat.reduceAdd, Nat.reduceSub, Nat.reduceMul, Nat.reduceBEq, Nat.reduceLeDiff, Nat.reduceLT, Int.reduceToNat, splice, List.take_succ_cons, List.take_zero, List.drop_succ_cons, List.drop_zero, List.drop_nil]
  refine Sem.draw' (by kernel_rfl) (.one 0 (.one 1 (.one 2 (.one 3 (.one 4 (.one 5 (.one 6 (.one 7 (.one 8 (.one 9 (.one 10 (.one 11 (.one 12 (.one 13 (.one 14 (.one 15 (.one 16 (.one 17 (.one 18 (.one 19 (.one 20 (.one 21 (.one 22 (.one 23 .done)))))))))))))))))))))))) [] (by kernel_rfl) (fun G ff hG hf => ?_)
  simp (decide := true) only [winpb3, Nat.reduceAdd] at hG ⊢
  rcases Int.lt_or_le n base with h1 | h1
  · simp -dsimp (decide := true) (maxSteps := 1000000) (disch := first | omega | simp (decide := true) only [bdset_a, brow_flat, trow_len, trow_flat, trows_flat, trows_length]) only [winpb6, ↓brun_b, envOf, reduceIte, Nat.reduceEqDiff, Nat.reduceAdd, Nat.reduceSub, Nat.reduceMul, Nat.reduceBEq, Nat.reduceLeDiff, Nat.reduceLT, Int.reduceToNat, splice, List.take_succ_cons, List.take_zero, List.drop_succ_cons, List.drop_zero, List.drop_nil, hG, decide_eq_true h1]
    refine hf _ (Sem.go (k := 1000) ?_)
    simp (decide := true) only [back_mk, backL_in, backL_row, backL_none, backL_nil, Nat.zero_add, Nat.reduceAdd]
    simp -dsimp (decide := true) (maxSteps := 1000000) (disch := first | omega | simp (decide := true) only [bdset_a, brow_flat, trow_len, trow_flat, trows_flat, trows_length]) only [winpb6, ↓brun_b, envOf, reduceIte, Nat.reduceEqDiff, Nat.reduceAdd, Nat.reduceSub, Nat.reduceMul, Nat.reduceBEq, Nat.reduceLeDiff, Nat.reduceLT, Int.reduceToNat, splice, List.take_succ_cons, List.take_zero, List.drop_succ_cons, List.drop_zero, List.drop_nil]
    refine SQ.runL (rs := [.tmp 4]) [0, 1] _ _ rfl (And.intro rfl rfl) (by decide) rfl rfl ?_ ?_
    · simp -dsimp (decide := true) (maxSteps := 1000000) (disch := first | omega | simp (decide := true) only [bdset_a, brow_flat, trow_len, trow_flat, trows_flat, trows_length]) only [winpb7, ↓brun_b, envOf, reduceIte, Nat.reduceEqDiff, Nat.reduceAdd, Nat.reduceSub, Nat.reduceMul, Nat.reduceBEq, Nat.reduceLeDiff, Nat.reduceLT, Int.reduceToNat, splice, List.take_succ_cons, List.take_zero, List.drop_succ_cons, List.drop_zero, List.drop_nil, frz1, rho, ↓reduceIte]
    · simp -dsimp (decide := true) (maxSteps := 1000000) (disch := first | omega | simp (decide := true) only [bdset_a, brow_flat, trow_len, trow_flat, trows_flat, trows_length]) only [winpb7, ↓brun_b, envOf, reduceIte, Nat.reduceEqDiff, Nat.reduceAdd, Nat.reduceSub, Nat.reduceMul, Nat.reduceBEq, Nat.reduceLeDiff, Nat.reduceLT, Int.reduceToNat, splice, List.take_succ_cons, List.take_zero, List.drop_succ_cons, List.drop_zero, List.drop_nil, frz1, rho, ↓reduceIte]
  · have h2 : ¬ n < base := by omega
    have hw : IntKind.i64.wrap (n - (base : Int)) = n - base := wrap_i64 _ (by omega)
    have h3 : (k : Int) ≤ n - base := by omega
    simp -dsimp (decide := true) (maxSteps := 1000000) (disch := first | omega | simp (decide := true) only [bdset_a, brow_flat, trow_len, trow_flat, trows_flat, trows_length]) only [winpb6, ↓brun_b, envOf, reduceIte, Nat.reduceEqDiff, Nat.reduceAdd, Nat.reduceSub, Nat.reduceMul, Nat.reduceBEq, Nat.reduceLeDiff, Nat.reduceLT, Int.reduceToNat, splice, List.take_succ_cons, List.take_zero, List.drop_succ_cons, List.drop_zero, List.drop_nil, hG, decide_eq_false h2, hw, decide_eq_true h3]
    refine hf _ (Sem.go (k := 1000) ?_)
    simp (decide := true) only [back_mk, backL_in, backL_row, backL_none, backL_nil, Nat.zero_add, Nat.reduceAdd]
    simp -dsimp (decide := true) (maxSteps := 1000000) (disch := first | omega | simp (decide := true) only [bdset_a, brow_flat, trow_len, trow_flat, trows_flat, trows_length]) only [winpb6, ↓brun_b, envOf, reduceIte, Nat.reduceEqDiff, Nat.reduceAdd, Nat.reduceSub, Nat.reduceMul, Nat.reduceBEq, Nat.reduceLeDiff, Nat.reduceLT, Int.reduceToNat, splice, List.take_succ_cons, List.take_zero, List.drop_succ_cons, List.drop_zero, List.drop_nil]
    refine SQ.runL (rs := [.tmp 4]) [0, 1] _ _ rfl (And.intro rfl rfl) (by decide) rfl rfl ?_ ?_
    · simp -dsimp (decide := true) (maxSteps := 1000000) (disch := first | omega | simp (decide := true) only [bdset_a, brow_flat, trow_len, trow_flat, trows_flat, trows_length]) only [winpb7, ↓brun_b, envOf, reduceIte, Nat.reduceEqDiff, Nat.reduceAdd, Nat.reduceSub, Nat.reduceMul, Nat.reduceBEq, Nat.reduceLeDiff, Nat.reduceLT, Int.reduceToNat, splice, List.take_succ_cons, List.take_zero, List.drop_succ_cons, List.drop_zero, List.drop_nil, frz1, rho, ↓reduceIte]
    · simp -dsimp (decide := true) (maxSteps := 1000000) (disch := first | omega | simp (decide := true) only [bdset_a, brow_flat, trow_len, trow_flat, trows_flat, trows_length]) only [winpb7, ↓brun_b, envOf, reduceIte, Nat.reduceEqDiff, Nat.reduceAdd, Nat.reduceSub, Nat.reduceMul, Nat.reduceBEq, Nat.reduceLeDiff, Nat.reduceLT, Int.reduceToNat, splice, List.take_succ_cons, List.take_zero, List.drop_succ_cons, List.drop_zero, List.drop_nil, frz1, rho, ↓reduceIte]
def winpb8 :=
  (And.intro winpc0 (And.intro winpc2 @bs44_0))
theorem acked_yes (base : Nat) (got : Int) (ts : List (List UInt8)) (j : Nat) (h0 : base + ts.length < 4611686018427387904) (h1 : ts.length * 24 ≤ 140737488355328) (hj : j < ts.length) :
    SCall Try.prog 52 [.ptr 0 0 0, .v (.int .i64 ((base + j : Nat) : Int))] [some (.row ⟨3, 1, true, 197, fun _ => [.v (.int .i64 (base : Int)), .slc 1 0 ts.length, .v (.int .i64 got)]⟩), some (.row ⟨1, ts.length, true, 35, trow ts⟩)]
      fun r L => r = .ret (.v (.int .i64 ((j + 1 : Nat) : Int))) ∧ L = [some (.row ⟨3, 1, true, 197, fun _ => [.v (.int .i64 ((base + (j + 1) : Nat) : Int)), .slc 2 0 (ts.length - (j + 1)), .v (.int .i64 got)]⟩), none, some (.row ⟨1, ts.length - (j + 1), true, 35, trow (ts.drop (j + 1))⟩)] := by
  refine SCall.mk (fn := Try.f52) (by kernel_rfl) rfl (Nat.le_of_ble_eq_true (by kernel_rfl)) ?_
  refine Sem.go (k := 1000) ?_
  simp -dsimp (decide := true) (maxSteps := 1000000) (disch := first | omega | simp (decide := true) only [bdset_a, brow_flat, trow_len, trow_flat, trows_flat, trows_length]) only [winpb6, ↓brun_b, envOf, reduceIte, Nat.reduceEqDiff, Nat.reduceAdd, Nat.reduceSub, Nat.reduceMul, Nat.reduceBEq, Nat.reduceLeDiff, Nat.reduceLT, Int.reduceToNat, splice, List.take_succ_cons, List.take_zero, List.drop_succ_cons, List.drop_zero, List.drop_nil]
  refine Sem.draw' (by kernel_rfl) (.one 0 (.one 1 (.one 2 (.one 3 (.one 4 (.one 5 (.one 6 (.one 7 (.one 8 (.one 9 (.one 10 (.one 11 (.one 12 (.one 13 (.one 14 (.one 15 (.one 16 (.one 17 (.one 18 (.one 19 (.one 20 (.one 21 (.one 22 (.one 23 .done)))))))))))))))))))))))) [] (by kernel_rfl) (fun G ff hG hf => ?_)
  simp (decide := true) only [winpb3, Nat.reduceAdd] at hG ⊢
  have h2 : ¬ (((base + j : Nat) : Int) < base) := by omega
  have hw : IntKind.i64.wrap (((base + j : Nat) : Int) - (base : Int)) = (j : Int) := by rw [wrap_i64 _ (by omega)]; omega
  have h3 : ¬ ((ts.length : Int) ≤ (j : Int)) := by omega
  simp -dsimp (decide := true) (maxSteps := 1000000) (disch := first | omega | simp (decide := true) only [bdset_a, brow_flat, trow_len, trow_flat, trows_flat, trows_length]) only [winpb6, ↓brun_b, envOf, reduceIte, Nat.reduceEqDiff, Nat.reduceAdd, Nat.reduceSub, Nat.reduceMul, Nat.reduceBEq, Nat.reduceLeDiff, Nat.reduceLT, Int.reduceToNat, splice, List.take_succ_cons, List.take_zero, List.drop_succ_cons, List.drop_zero, List.drop_nil, hG, decide_eq_false h2, hw, decide_eq_false h3]
  refine hf _ (Sem.go (k := 1000) ?_)
  simp (decide := true) only [back_mk, backL_in, backL_row, backL_none, backL_nil, Nat.zero_add, Nat.reduceAdd]
  have hw2 : IntKind.i64.wrap ((j : Int) + 1) = ((j + 1 : Nat) : Int) := by rw [wrap_i64 _ (by omega)]; rfl
  have hw3 : IntKind.i64.wrap ((base : Int) + ((j + 1 : Nat) : Int)) = ((base + (j + 1) : Nat) : Int) := by rw [wrap_i64 _ (by omega)]; omega
  have htn : ((ts.length : Int) - ((j + 1 : Nat) : Int)).toNat = ts.length - (j + 1) := by omega
  simp -dsimp (decide := true) (maxSteps := 1000000) (disch := first | omega | simp (decide := true) only [bdset_a, brow_flat, trow_len, trow_flat, trows_flat, trows_length]) only [winpb8, ↓brun_b, envOf, reduceIte, Nat.reduceEqDiff, Nat.reduceAdd, Nat.reduceSub, Nat.reduceMul, Nat.reduceBEq, Nat.reduceLeDiff, Nat.reduceLT, Int.reduceToNat, splice, List.take_succ_cons, List.take_zero, List.drop_succ_cons, List.drop_zero, List.drop_nil, hw, hw2, hw3, sapp1_sl el35, htn]
  refine And.intro (by omega) (And.intro (by omega) ?_)
  refine SQ.runL (rs := [.tmp 4]) [0, 1, 3] _ _ rfl (And.intro rfl rfl) (by decide) rfl rfl ?_ ?_
  · simp -dsimp (decide := true) (maxSteps := 1000000) (disch := first | omega | simp (decide := true) only [bdset_a, brow_flat, trow_len, trow_flat, trows_flat, trows_length]) only [winpb7, ↓brun_b, envOf, reduceIte, Nat.reduceEqDiff, Nat.reduceAdd, Nat.reduceSub, Nat.reduceMul, Nat.reduceBEq, Nat.reduceLeDiff, Nat.reduceLT, Int.reduceToNat, splice, List.take_succ_cons, List.take_zero, List.drop_succ_cons, List.drop_zero, List.drop_nil, frz1, rho, ↓reduceIte]
    intro e he
    rw [Nat.sub_zero, show trow (ts.drop (j + 1)) e = trow ts (j + 1 + e) by simp [trow, List.getD_eq_getElem?_getD]]
    exact EntL.self (trow_flat _ _)
  · simp -dsimp (decide := true) (maxSteps := 1000000) (disch := first | omega | simp (decide := true) only [bdset_a, brow_flat, trow_len, trow_flat, trows_flat, trows_length]) only [winpb7, ↓brun_b, envOf, reduceIte, Nat.reduceEqDiff, Nat.reduceAdd, Nat.reduceSub, Nat.reduceMul, Nat.reduceBEq, Nat.reduceLeDiff, Nat.reduceLT, Int.reduceToNat, splice, List.take_succ_cons, List.take_zero, List.drop_succ_cons, List.drop_zero, List.drop_nil, frz1, rho, ↓reduceIte]
theorem trow_take (ts : List (List UInt8)) (k e : Nat) (hk : k < ts.length) : trow (ts.take (k + 1)) e = trow (ts.take k ++ [ts.getD k []]) e := by
  rw [List.take_add_one, List.getElem?_eq_getElem hk, Option.toList_some, List.getD_eq_getElem?_getD, List.getElem?_eq_getElem hk, Option.getD_some]
theorem ent_sendk {L : List (Option SK)} {l : List Nat} {L' : List (Option SK)} {ρ : Nat → Nat} {b : Nat} {ty : TypeId} {el : Nat → List SV} (ts : List (List UInt8)) (k e : Nat) (hk' : k < ts.length) (h : getL L b = some (.row ⟨1, (ts.getD k []).length, true, ty, el⟩)) (hk : keptB l L' b = false) (hel : ∀ i, i < (ts.getD k []).length → el i = brow (ts.getD k []) i) (he : e < k + 1) :
    EntL (fzOf L l L') ρ (trow (ts.take (k + 1)) e) (if e < k then trow (ts.take k) e else List.take 1 (List.drop (e - k) [.slc b 0 (ts.getD k []).length])) := by
  have htk : (ts.take k).length = k := by rw [List.length_take]; omega
  rw [trow_take ts k e hk']
  have := ent_send (ρ := ρ) (ts.take k) (ts.getD k []) e h hk hel (by omega)
  rwa [htk] at this
theorem ent_all {L : List (Option SK)} {l : List Nat} {L' : List (Option SK)} {ρ : Nat → Nat} {b : Nat} {ty : TypeId} {el : Nat → List SV} (ts : List (List UInt8)) (h : getL L b = some (.row ⟨1, ts.length, true, ty, el⟩)) (hk : keptB l L' b = false) (hel : ∀ i, el i = trow ts i) : Ent (fzOf L l L') ρ (.rsl 1 (trows ts)) (.slc b 0 ts.length) := by
  refine Ent_row h hk (trows_length ts).symm (by omega) fun i r hr => ?_
  have hi : i < ts.length := by
    rcases Nat.lt_or_ge i ts.length with h | h
    · exact h
    · rw [List.getElem?_eq_none (by rw [trows_length]; exact h)] at hr; cases hr
  rw [Nat.zero_add, hel i]
  have h2 := trows_at ts i hi
  rw [List.getD_eq_getElem?_getD, hr] at h2
  rw [show r = trow ts i from h2]
  exact EntL.self (trow_flat _ _)
def winpb9 :=
  (And.intro (And.intro winpc0 winpc2) (And.intro @tab.a3 (And.intro @tab.s3 @tab.u3)))
def winpb10 :=
  (And.intro (And.intro (And.intro winpc0 winpc2) (And.intro @bwk_a (And.intro @eq_self.{1} @forall_const.{1}))) (And.intro (And.intro @implies_true.{0} @implies_true.{1}) (And.intro @tab.a3 (And.intro @tab.s3 @tab.u3))))
def winpb11 :=
  (And.intro (And.intro winpc0 (And.intro winpc2 @bs35_0)) (And.intro (And.intro @bs44s @tab.a3) (And.intro @tab.s3 @tab.u3)))
theorem waits_calls (base got : Int) (ts : List (List UInt8)) (h1 : ts.length * 24 ≤ 140737488355328) (h2 : ∀ t ∈ ts, t.length ≤ 140737488355328) :
    Reads Try.prog 56 [.ptr 0 0 0] [some (.row ⟨3, 1, false, 197, fun _ => [.v (.int .i64 base), .slc 1 0 ts.length, .v (.int .i64 got)]⟩), some (.row ⟨1, ts.length, false, 35, trow ts⟩)]
      (.tup [.v (.int .i64 base), .rsl 1 (trows ts)]) := by
  refine SCall.mk (fn := Try.f56) (by kernel_rfl) rfl (Nat.le_of_ble_eq_true (by kernel_rfl)) ?_
  refine Sem.go (k := 1000) ?_
  simp -dsimp (decide := true) (maxSteps := 1000000) (disch := first | omega | simp (decide := true) only [bdset_a, brow_flat, trow_len, trow_flat, trows_flat, trows_length]) only [winpb9, ↓brun_b, envOf, reduceIte, Nat.reduceEqDiff, Nat.reduceAdd, Nat.reduceSub, Nat.reduceMul, Nat.reduceBEq, Nat.reduceLeDiff, Nat.reduceLT, Int.reduceToNat, splice, List.take_succ_cons, List.take_zero, List.drop_succ_cons, List.drop_zero, List.drop_nil]
  refine Sem.ghost 4 1 35 rfl ?_
  refine Sem.loop (ι := {k : Nat // k ≤ ts.length}) (fun k => ⟨30, 2, [(0, .ptr 0 0 0), (12, .slc 1 0 ts.length), (13, .v (.int .i64 (ts.length : Int))), (14, .v (.int .i64 (k.1 : Int))), (4, .slc 2 0 k.1)], [some (.row ⟨3, 1, false, 197, fun _ => [.v (.int .i64 base), .slc 1 0 ts.length, .v (.int .i64 got)]⟩), some (.row ⟨1, ts.length, false, 35, trow ts⟩), some (.row ⟨1, k.1, true, 35, trow (ts.take k.1)⟩)]⟩) (fun k => ts.length - k.1) ⟨0, by omega⟩ [0, 1, 2] ?_ ?_
  · (refine Wk.ofC ?_; simp -dsimp (decide := true) (maxSteps := 1000000) (disch := first | omega | simp (decide := true) only [bdset_a, brow_flat, trow_len, trow_flat, trows_flat, trows_length]) only [winpb10, ↓brun_b, envOf, reduceIte, Nat.reduceEqDiff, Nat.reduceAdd, Nat.reduceSub, Nat.reduceMul, Nat.reduceBEq, Nat.reduceLeDiff, Nat.reduceLT, Int.reduceToNat, splice, List.take_succ_cons, List.take_zero, List.drop_succ_cons, List.drop_zero, List.drop_nil, frz1, rho, ↓reduceIte])
  · rintro ⟨k, hk⟩
    refine Sem.go (k := 1000) ?_
    simp -dsimp (decide := true) (maxSteps := 1000000) (disch := first | omega | simp (decide := true) only [bdset_a, brow_flat, trow_len, trow_flat, trows_flat, trows_length]) only [winpb9, ↓brun_b, envOf, reduceIte, Nat.reduceEqDiff, Nat.reduceAdd, Nat.reduceSub, Nat.reduceMul, Nat.reduceBEq, Nat.reduceLeDiff, Nat.reduceLT, Int.reduceToNat, splice, List.take_succ_cons, List.take_zero, List.drop_succ_cons, List.drop_zero, List.drop_nil]
    refine SCond.split (fun h => ?_) (fun h => ?_)
    · simp only [decide_eq_true_eq] at h
      have hk' : k < ts.length := by omega
      have hw : IntKind.i64.wrap ((k : Int) + 1) = ((k + 1 : Nat) : Int) := by rw [wrap_i64 _ (by omega)]; rfl
      have htl : (ts.getD k []).length ≤ 140737488355328 := h2 _ (by rw [List.getD_eq_getElem?_getD, List.getElem?_eq_getElem hk', Option.getD_some]; exact List.getElem_mem hk')
      have htk : (ts.take k).length = k := by rw [List.length_take]; omega
      simp -dsimp (decide := true) (maxSteps := 1000000) (disch := first | omega | simp (decide := true) only [bdset_a, brow_flat, trow_len, trow_flat, trows_flat, trows_length]) only [winpb11, ↓brun_b, envOf, reduceIte, Nat.reduceEqDiff, Nat.reduceAdd, Nat.reduceSub, Nat.reduceMul, Nat.reduceBEq, Nat.reduceLeDiff, Nat.reduceLT, Int.reduceToNat, splice, List.take_succ_cons, List.take_zero, List.drop_succ_cons, List.drop_zero, List.drop_nil, hw, sapp1_sl el5, sapp1_sl el35]
      refine And.intro (by omega) (And.intro hk' (And.intro htl (And.intro (by omega) ⟨⟨k + 1, by omega⟩, [0, 1, 6], ?_, by show ts.length - (k + 1) < ts.length - k; omega⟩)))
      (refine Wk.ofC ?_; simp -dsimp (decide := true) (maxSteps := 1000000) (disch := first | omega | simp (decide := true) only [bdset_a, brow_flat, trow_len, trow_flat, trows_flat, trows_length]) only [winpb10, ↓brun_b, envOf, reduceIte, Nat.reduceEqDiff, Nat.reduceAdd, Nat.reduceSub, Nat.reduceMul, Nat.reduceBEq, Nat.reduceLeDiff, Nat.reduceLT, Int.reduceToNat, splice, List.take_succ_cons, List.take_zero, List.drop_succ_cons, List.drop_zero, List.drop_nil, frz1, rho, ↓reduceIte])
      exact fun e he => ent_sendk ts k e hk' rfl rfl (copy_el _) he
    · simp only [decide_eq_false_iff_not] at h
      obtain rfl : k = ts.length := by omega
      simp -dsimp (decide := true) (maxSteps := 1000000) (disch := first | omega | simp (decide := true) only [bdset_a, brow_flat, trow_len, trow_flat, trows_flat, trows_length]) only [winpb9, ↓brun_b, envOf, reduceIte, Nat.reduceEqDiff, Nat.reduceAdd, Nat.reduceSub, Nat.reduceMul, Nat.reduceBEq, Nat.reduceLeDiff, Nat.reduceLT, Int.reduceToNat, splice, List.take_succ_cons, List.take_zero, List.drop_succ_cons, List.drop_zero, List.drop_nil]
      refine SQ.runL (rs := [.tmp 2, .tmp 3]) [0, 1] _ [none, none] rfl (And.intro rfl rfl) (by decide) rfl rfl ?_ ?_
      · simp -dsimp (decide := true) (maxSteps := 1000000) (disch := first | omega | simp (decide := true) only [bdset_a, brow_flat, trow_len, trow_flat, trows_flat, trows_length]) only [winpb10, ↓brun_b, envOf, reduceIte, Nat.reduceEqDiff, Nat.reduceAdd, Nat.reduceSub, Nat.reduceMul, Nat.reduceBEq, Nat.reduceLeDiff, Nat.reduceLT, Int.reduceToNat, splice, List.take_succ_cons, List.take_zero, List.drop_succ_cons, List.drop_zero, List.drop_nil, frz1, rho, ↓reduceIte]
      · simp -dsimp (decide := true) (maxSteps := 1000000) (disch := first | omega | simp (decide := true) only [bdset_a, brow_flat, trow_len, trow_flat, trows_flat, trows_length]) only [winpb10, ↓brun_b, envOf, reduceIte, Nat.reduceEqDiff, Nat.reduceAdd, Nat.reduceSub, Nat.reduceMul, Nat.reduceBEq, Nat.reduceLeDiff, Nat.reduceLT, Int.reduceToNat, splice, List.take_succ_cons, List.take_zero, List.drop_succ_cons, List.drop_zero, List.drop_nil, List.take_length, frz1, rho, ↓reduceIte]
        exact ent_all ts rfl rfl fun _ => rfl
end Go.Proofs
namespace Go.Proofs
open Go Go.SL
set_option maxRecDepth 100000
theorem cls_int64 {n : Nat} {t : TypeId} (ht : Try.prog.underlying t = some (.int .i64)) {l : List SV} (h : ClsC Try.prog (n + 1) t l) : ∃ x : Int, l = [.v (.int .i64 x)] ∧ -9223372036854775808 ≤ x ∧ x < 9223372036854775808 := by
  unfold ClsC at h
  rw [ht] at h
  obtain ⟨x, rfl, hw⟩ := h
  have h4 : IntKind.i64.min = -9223372036854775808 := rfl
  have h5 : IntKind.i64.max = 9223372036854775807 := rfl
  simp only [Lit.wf, Bool.and_eq_true, decide_eq_true_eq, h4, h5] at hw
  exact ⟨x, rfl, by omega, by omega⟩
end Go.Proofs
namespace Go.SL
open Go
def lrow (ns : List Int) (e : Nat) : List SV := [.v (.int .i64 (ns.getD e 0))]
def lrows (ns : List Int) : List (List SV) := ns.map fun n => [.v (.int .i64 n)]
theorem lrows_flat (ns : List Int) : SV.flatR (lrows ns) = true := flatR_map _ _ fun t => rfl
end Go.SL
namespace Go.Proofs
open Go Go.SL
set_option maxRecDepth 100000
end Go.Proofs
namespace Go.Proofs
open Go Go.SL
set_option maxRecDepth 100000
end Go.Proofs
