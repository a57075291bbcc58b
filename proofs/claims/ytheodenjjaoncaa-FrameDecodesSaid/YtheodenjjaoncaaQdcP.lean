/- Contracts of functions that the laws reach, on abstract values, and what they need: no conditions but those that each theorem states. -/
import Derived.Test.YtheodenjjaoncaaDecP1
import Derived.Test.YtheodenjjaoncaaWirP
import Derived.Test.YtheodenjjaoncaaBarP
import Derived.Test.YtheodenjjaoncaaDecP2
import Derived.Test.YtheodenjjaoncaaFixP
set_option linter.unusedVariables false
set_option linter.unusedSimpArgs false
set_option linter.defProp false
namespace Go.Proofs
open Go Go.SL
set_option maxRecDepth 100000
def qdcpc0 :=
  (And.intro (And.intro (And.intro @SKren_row (And.intro @after_mk @brows_renR)) (And.intro (And.intro @cellAt_succ @cellAt_zero) (And.intro @mergeL_done @mergeL_own))) (And.intro (And.intro @renL_cons (And.intro @renL_flat @renL_nil)) (And.intro (And.intro @ren_tup @splice_0) (And.intro @splice_c @splice_s))))
def qdcpc1 :=
  (And.intro (And.intro @beq_self_eq_true.{0} (And.intro @brun_a @cond_false.{1})) (And.intro @cond_true.{1} (And.intro @tab.a37 @tab.s37)))
def qdcpc2 :=
  (And.intro (And.intro (And.intro @tab.a3 @tab.a35) (And.intro @tab.f262x0 @tab.f262x1)) (And.intro (And.intro @tab.f262x2 @tab.s3) (And.intro @tab.s35 @tab.u35)))
def qdcpb0 :=
  (And.intro qdcpc0 (And.intro qdcpc1 qdcpc2))
def qdcpb1 :=
  (And.intro (And.intro (And.intro qdcpc0 qdcpc1) (And.intro qdcpc2 @bwk_a)) (And.intro (And.intro @eq_self.{1} @forall_const.{1}) (And.intro @implies_true.{0} @implies_true.{1})))
theorem fail_calls (b : List UInt8) (p e : Int) : SCall Try.prog 172 [.ptr 0 0 0, .v (.int .i64 e)] [some (.row ⟨3, 1, true, 262, fun _ => [bsl b, .v (.int .i64 p), .v (.int .i64 0)]⟩)] fun r L => r = .ret (.tup []) ∧ L = [some (.row ⟨3, 1, true, 262, fun _ => [bsl b, .v (.int .i64 p), .v (.int .i64 e)]⟩)] := by
  refine SCall.mk (fn := Try.f172) (by kernel_rfl) rfl (Nat.le_of_ble_eq_true (by kernel_rfl)) ?_
  refine Sem.go (k := 1000) ?_
  simp -dsimp (decide := true) (disch := first | omega | simp (decide := true) only [bdset_a, I16.c_length, I16.one, I16.flat, bsl_flat]) only [qdcpb0, ↓brun_b, envOf, Nat.reduceBEq]
  refine SQ.fin (SQ.runL (rs := []) [0] (.tup []) _ rfl (And.intro rfl rfl) (by decide) rfl rfl ?_ ?_)
  · simp -dsimp (decide := true) (disch := first | omega | simp (decide := true) only [bdset_a, I16.c_length, I16.one, I16.flat, bsl_flat]) only [qdcpb1]
  · simp -dsimp (decide := true) (disch := first | omega | simp (decide := true) only [bdset_a, I16.c_length, I16.one, I16.flat, bsl_flat]) only [qdcpb1, ↓brun_b]
    exact Ent.eq rfl
def Qr (α : Type) := List UInt8 → Int → Int → α × Int × Int
def Qtakes {α : Type} (f : FuncId) (more : List SV) (q : Qr α) (enc : α → SV) : Prop :=
  ∀ (b : List UInt8) (p e : Int), b.length ≤ 140737488355328 → I64 p → SCall Try.prog f (.ptr 0 0 0 :: more) [some (.row ⟨3, 1, true, 262, fun _ => [bsl b, .v (.int .i64 p), .v (.int .i64 e)]⟩)]
    fun r L => r = .ret (enc (q b p e).1) ∧ L = [some (.row ⟨3, 1, true, 262, fun _ => [bsl b, .v (.int .i64 (q b p e).2.1), .v (.int .i64 (q b p e).2.2)]⟩)]
def qnum (lo hi : Nat) (err : Int) : Qr Nat := fun b p e =>
  if e ≠ 0 then (0, p, e) else match getNum b p with
  | (n, q, e2) => if e2 ≠ 0 then (0, p, e2) else if 9223372036854775808 ≤ n then (0, p, 2) else if n < lo ∨ hi < n then (0, p, err) else (n, q, 0)
def qdcpb2 :=
  (And.intro (And.intro qdcpc0 (And.intro qdcpc1 qdcpc2)) (And.intro @tab.s2 (And.intro @tab.u2 @tab.u36)))
def qdcpb3 :=
  (And.intro (And.intro (And.intro qdcpc0 qdcpc1) (And.intro qdcpc2 (And.intro @bwk_a @eq_self.{1}))) (And.intro (And.intro @forall_const.{1} (And.intro @implies_true.{0} @implies_true.{1})) (And.intro @tab.s2 (And.intro @tab.u2 @tab.u36))))
def qdcpb4 :=
  (And.intro (And.intro (And.intro @List.length_cons.{0} @List.length_nil.{0}) (And.intro @Nat.zero_add @roL_in)) (And.intro (And.intro @roL_nil @roL_none) (And.intro @roL_row @ro_mk)))
def qdcpb5 :=
  (And.intro (And.intro qdcpc1 qdcpc2) (And.intro @tab.s2 (And.intro @tab.u2 @tab.u36)))
set_option maxHeartbeats 4000000 in
theorem qnum_takes (lo hi : Nat) (err : Int) (hlo : lo < 18446744073709551616) (hhi : hi < 18446744073709551616) : Qtakes 163 [.v (.int .u64 (lo : Int)), .v (.int .u64 (hi : Int)), .v (.int .i64 err)] (qnum lo hi err) (fun n => .v (.int .i64 (n : Int))) := by
  intro b p e hb hp
  by_cases he : e = 0
  rotate_left
  · have hq : qnum lo hi err b p e = (0, p, e) := by unfold qnum; rw [if_pos he]
    rw [hq]
    have hd : decide (e = 0) = false := decide_eq_false he
    refine SCall.mk (fn := Try.f163) (by kernel_rfl) rfl (Nat.le_of_ble_eq_true (by kernel_rfl)) ?_
    refine Sem.go (k := 1000) ?_
    simp -dsimp (decide := true) (disch := first | omega | simp (decide := true) only [bdset_a, I16.c_length, I16.one, I16.flat, bsl_flat]) only [qdcpb2, ↓brun_b, envOf, Nat.reduceAdd, Nat.reduceBEq, hd]
    refine SQ.runL (rs := [.tmp 8]) [0] _ _ rfl (And.intro rfl rfl) (by decide) rfl rfl ?_ ?_
    · simp -dsimp (decide := true) (disch := first | omega | simp (decide := true) only [bdset_a, I16.c_length, I16.one, I16.flat, bsl_flat]) only [qdcpb3]
    · simp -dsimp (decide := true) (disch := first | omega | simp (decide := true) only [bdset_a, I16.c_length, I16.one, I16.flat, bsl_flat]) only [qdcpb3, ↓brun_b]
  subst he
  have hc := refNum_calls b p (by omega) hp
  rcases hg : getNum b p with ⟨n, q, e2⟩
  rw [hg] at hc
  simp only [nres] at hc
  have hq : qnum lo hi err b p 0 = if e2 ≠ 0 then (0, p, e2) else if 9223372036854775808 ≤ n then (0, p, 2) else if n < lo ∨ hi < n then (0, p, err) else (n, q, 0) := by
    unfold qnum
    rw [if_neg (by simp), hg]
  rw [hq]
  by_cases h2 : e2 = 0
  rotate_left
  · have hd : decide (e2 = 0) = false := decide_eq_false h2
    have hfl := fail_calls b p e2
    rw [if_pos h2]
    refine SCall.mk (fn := Try.f163) (by kernel_rfl) rfl (Nat.le_of_ble_eq_true (by kernel_rfl)) ?_
    refine Sem.go (k := 1000) ?_
    simp -dsimp (decide := true) (disch := first | omega | simp (decide := true) only [bdset_a, I16.c_length, I16.one, I16.flat, bsl_flat]) only [qdcpb2, ↓brun_b, envOf, Nat.reduceAdd, Nat.reduceBEq]
    refine Sem.draw' (by kernel_rfl) (.one 0 (.one 1 (.one 2 (.one 3 (.one 4 (.one 5 (.one 6 (.one 7 (.alt 8 (.one 9 (.one 10 (.one 11 (.one 12 (.one 13 (.one 14 (.one 15 .done))))))) .non))))))))) [] (by kernel_rfl) (fun G ff hG hf => ?_)
    simp (decide := true) only [qdcpb4] at hG ⊢
    simp -dsimp (decide := true) (disch := first | omega | simp (decide := true) only [bdset_a, I16.c_length, I16.one, I16.flat, bsl_flat]) only [qdcpb2, ↓brun_b, Nat.reduceBEq, hG]
    refine OpSem.callq cal.f67 (hc) rfl rfl rfl (by simp only [bflat_a]) (by simp only [bflat_a]) (by simp -dsimp (decide := true) (disch := first | omega | simp (decide := true) only [bdset_a, I16.c_length, I16.one, I16.flat, bsl_flat]) only [qdcpb5]) ?_
    simp -dsimp (decide := true) (disch := first | omega | simp (decide := true) only [bdset_a, I16.c_length, I16.one, I16.flat, bsl_flat]) only [qdcpb2, ↓brun_b, Nat.reduceBEq]
    refine hf _ (Sem.go (k := 1000) ?_)
    simp (decide := true) only [back_mk, backL_row, backL_nil, Nat.zero_add]
    simp -dsimp (decide := true) (disch := first | omega | simp (decide := true) only [bdset_a, I16.c_length, I16.one, I16.flat, bsl_flat]) only [qdcpb2, ↓brun_b, Nat.reduceBEq, hd]
    refine SemOps.callw [0] cal.f172 (hfl) rfl rfl rfl (by simp -dsimp (decide := true) (disch := first | omega | simp (decide := true) only [bdset_a, I16.c_length, I16.one, I16.flat, bsl_flat]) only [qdcpb3, ↓brun_b, Nat.reduceBEq]) rfl (by simp -dsimp (decide := true) (disch := first | omega | simp (decide := true) only [bdset_a, I16.c_length, I16.one, I16.flat, bsl_flat]) only [qdcpb3]) (by simp -dsimp (decide := true) (disch := first | omega | simp (decide := true) only [bdset_a, I16.c_length, I16.one, I16.flat, bsl_flat]) only [qdcpb5]) ?_
    refine SemOps.go (k := 1000) ?_
    simp -dsimp (decide := true) (disch := first | omega | simp (decide := true) only [bdset_a, I16.c_length, I16.one, I16.flat, bsl_flat]) only [qdcpb2, ↓brun_b]
    refine SQ.runL (rs := [.tmp 8]) [0] _ _ rfl (And.intro rfl rfl) (by decide) rfl rfl ?_ ?_
    · simp -dsimp (decide := true) (disch := first | omega | simp (decide := true) only [bdset_a, I16.c_length, I16.one, I16.flat, bsl_flat]) only [qdcpb3]
    · simp -dsimp (decide := true) (disch := first | omega | simp (decide := true) only [bdset_a, I16.c_length, I16.one, I16.flat, bsl_flat]) only [qdcpb3, ↓brun_b]
  subst h2
  rw [if_neg (by simp)]
  by_cases h3 : 9223372036854775808 ≤ n
  · have hs : decide (0 < (n : Int).fdiv (2 ^ min 63 IntKind.u64.bits)) = true := decide_eq_true (by rw [shr63]; omega)
    have hfl := fail_calls b p 2
    rw [if_pos h3]
    refine SCall.mk (fn := Try.f163) (by kernel_rfl) rfl (Nat.le_of_ble_eq_true (by kernel_rfl)) ?_
    refine Sem.go (k := 1000) ?_
    simp -dsimp (decide := true) (disch := first | omega | simp (decide := true) only [bdset_a, I16.c_length, I16.one, I16.flat, bsl_flat]) only [qdcpb2, ↓brun_b, envOf, Nat.reduceAdd, Nat.reduceBEq]
    refine Sem.draw' (by kernel_rfl) (.one 0 (.one 1 (.one 2 (.one 3 (.one 4 (.one 5 (.one 6 (.one 7 (.alt 8 (.one 9 (.one 10 (.one 11 (.one 12 (.one 13 (.one 14 (.one 15 .done))))))) .non))))))))) [] (by kernel_rfl) (fun G ff hG hf => ?_)
    simp (decide := true) only [qdcpb4] at hG ⊢
    simp -dsimp (decide := true) (disch := first | omega | simp (decide := true) only [bdset_a, I16.c_length, I16.one, I16.flat, bsl_flat]) only [qdcpb2, ↓brun_b, Nat.reduceBEq, hG]
    refine OpSem.callq cal.f67 (hc) rfl rfl rfl (by simp only [bflat_a]) (by simp only [bflat_a]) (by simp -dsimp (decide := true) (disch := first | omega | simp (decide := true) only [bdset_a, I16.c_length, I16.one, I16.flat, bsl_flat]) only [qdcpb5]) ?_
    simp -dsimp (decide := true) (disch := first | omega | simp (decide := true) only [bdset_a, I16.c_length, I16.one, I16.flat, bsl_flat]) only [qdcpb2, ↓brun_b, Nat.reduceBEq]
    refine hf _ (Sem.go (k := 1000) ?_)
    simp (decide := true) only [back_mk, backL_row, backL_nil, Nat.zero_add]
    simp -dsimp (decide := true) (disch := first | omega | simp (decide := true) only [bdset_a, I16.c_length, I16.one, I16.flat, bsl_flat]) only [qdcpb2, ↓brun_b, Nat.reduceBEq, Int.reduceToNat, hs]
    refine SemOps.callw [0] cal.f172 (hfl) rfl rfl rfl (by simp -dsimp (decide := true) (disch := first | omega | simp (decide := true) only [bdset_a, I16.c_length, I16.one, I16.flat, bsl_flat]) only [qdcpb3, ↓brun_b]) rfl (by simp -dsimp (decide := true) (disch := first | omega | simp (decide := true) only [bdset_a, I16.c_length, I16.one, I16.flat, bsl_flat]) only [qdcpb3]) (by simp -dsimp (decide := true) (disch := first | omega | simp (decide := true) only [bdset_a, I16.c_length, I16.one, I16.flat, bsl_flat]) only [qdcpb5]) ?_
    refine SemOps.go (k := 1000) ?_
    simp -dsimp (decide := true) (disch := first | omega | simp (decide := true) only [bdset_a, I16.c_length, I16.one, I16.flat, bsl_flat]) only [qdcpb2, ↓brun_b]
    refine SQ.runL (rs := [.tmp 8]) [0] _ _ rfl (And.intro rfl rfl) (by decide) rfl rfl ?_ ?_
    · simp -dsimp (decide := true) (disch := first | omega | simp (decide := true) only [bdset_a, I16.c_length, I16.one, I16.flat, bsl_flat]) only [qdcpb3]
    · simp -dsimp (decide := true) (disch := first | omega | simp (decide := true) only [bdset_a, I16.c_length, I16.one, I16.flat, bsl_flat]) only [qdcpb3, ↓brun_b]
  have hs : decide (0 < (n : Int).fdiv (2 ^ min 63 IntKind.u64.bits)) = false := decide_eq_false (by rw [shr63]; omega)
  have hw : IntKind.i64.wrap (n : Int) = (n : Int) := wrap_i64 _ (by omega)
  rw [if_neg h3]
  by_cases h4 : n < lo
  · have hd : decide ((n : Int) < (lo : Int)) = true := decide_eq_true (by omega)
    have hfl := fail_calls b p err
    rw [if_pos (Or.inl h4)]
    refine SCall.mk (fn := Try.f163) (by kernel_rfl) rfl (Nat.le_of_ble_eq_true (by kernel_rfl)) ?_
    refine Sem.go (k := 1000) ?_
    simp -dsimp (decide := true) (disch := first | omega | simp (decide := true) only [bdset_a, I16.c_length, I16.one, I16.flat, bsl_flat]) only [qdcpb2, ↓brun_b, envOf, Nat.reduceAdd, Nat.reduceBEq]
    refine Sem.draw' (by kernel_rfl) (.one 0 (.one 1 (.one 2 (.one 3 (.one 4 (.one 5 (.one 6 (.one 7 (.alt 8 (.one 9 (.one 10 (.one 11 (.one 12 (.one 13 (.one 14 (.one 15 .done))))))) .non))))))))) [] (by kernel_rfl) (fun G ff hG hf => ?_)
    simp (decide := true) only [qdcpb4] at hG ⊢
    simp -dsimp (decide := true) (disch := first | omega | simp (decide := true) only [bdset_a, I16.c_length, I16.one, I16.flat, bsl_flat]) only [qdcpb2, ↓brun_b, Nat.reduceBEq, hG]
    refine OpSem.callq cal.f67 (hc) rfl rfl rfl (by simp only [bflat_a]) (by simp only [bflat_a]) (by simp -dsimp (decide := true) (disch := first | omega | simp (decide := true) only [bdset_a, I16.c_length, I16.one, I16.flat, bsl_flat]) only [qdcpb5]) ?_
    simp -dsimp (decide := true) (disch := first | omega | simp (decide := true) only [bdset_a, I16.c_length, I16.one, I16.flat, bsl_flat]) only [qdcpb2, ↓brun_b, Nat.reduceBEq]
    refine hf _ (Sem.go (k := 1000) ?_)
    simp (decide := true) only [back_mk, backL_row, backL_nil, Nat.zero_add]
    simp -dsimp (decide := true) (disch := first | omega | simp (decide := true) only [bdset_a, I16.c_length, I16.one, I16.flat, bsl_flat]) only [qdcpb2, ↓brun_b, Nat.reduceBEq, Int.reduceToNat, hs, hd]
    refine SemOps.callw [0] cal.f172 (hfl) rfl rfl rfl (by simp -dsimp (decide := true) (disch := first | omega | simp (decide := true) only [bdset_a, I16.c_length, I16.one, I16.flat, bsl_flat]) only [qdcpb3, ↓brun_b, Nat.reduceBEq]) rfl (by simp -dsimp (decide := true) (disch := first | omega | simp (decide := true) only [bdset_a, I16.c_length, I16.one, I16.flat, bsl_flat]) only [qdcpb3]) (by simp -dsimp (decide := true) (disch := first | omega | simp (decide := true) only [bdset_a, I16.c_length, I16.one, I16.flat, bsl_flat]) only [qdcpb5]) ?_
    refine SemOps.go (k := 1000) ?_
    simp -dsimp (decide := true) (disch := first | omega | simp (decide := true) only [bdset_a, I16.c_length, I16.one, I16.flat, bsl_flat]) only [qdcpb2, ↓brun_b]
    refine SQ.runL (rs := [.tmp 8]) [0] _ _ rfl (And.intro rfl rfl) (by decide) rfl rfl ?_ ?_
    · simp -dsimp (decide := true) (disch := first | omega | simp (decide := true) only [bdset_a, I16.c_length, I16.one, I16.flat, bsl_flat]) only [qdcpb3]
    · simp -dsimp (decide := true) (disch := first | omega | simp (decide := true) only [bdset_a, I16.c_length, I16.one, I16.flat, bsl_flat]) only [qdcpb3, ↓brun_b]
  have hd : decide ((n : Int) < (lo : Int)) = false := decide_eq_false (by omega)
  by_cases h5 : hi < n
  · have hd2 : decide ((hi : Int) < (n : Int)) = true := decide_eq_true (by omega)
    have hfl := fail_calls b p err
    rw [if_pos (Or.inr h5)]
    refine SCall.mk (fn := Try.f163) (by kernel_rfl) rfl (Nat.le_of_ble_eq_true (by kernel_rfl)) ?_
    refine Sem.go (k := 1000) ?_
    simp -dsimp (decide := true) (disch := first | omega | simp (decide := true) only [bdset_a, I16.c_length, I16.one, I16.flat, bsl_flat]) only [qdcpb2, ↓brun_b, envOf, Nat.reduceAdd, Nat.reduceBEq]
    refine Sem.draw' (by kernel_rfl) (.one 0 (.one 1 (.one 2 (.one 3 (.one 4 (.one 5 (.one 6 (.one 7 (.alt 8 (.one 9 (.one 10 (.one 11 (.one 12 (.one 13 (.one 14 (.one 15 .done))))))) .non))))))))) [] (by kernel_rfl) (fun G ff hG hf => ?_)
    simp (decide := true) only [qdcpb4] at hG ⊢
    simp -dsimp (decide := true) (disch := first | omega | simp (decide := true) only [bdset_a, I16.c_length, I16.one, I16.flat, bsl_flat]) only [qdcpb2, ↓brun_b, Nat.reduceBEq, hG]
    refine OpSem.callq cal.f67 (hc) rfl rfl rfl (by simp only [bflat_a]) (by simp only [bflat_a]) (by simp -dsimp (decide := true) (disch := first | omega | simp (decide := true) only [bdset_a, I16.c_length, I16.one, I16.flat, bsl_flat]) only [qdcpb5]) ?_
    simp -dsimp (decide := true) (disch := first | omega | simp (decide := true) only [bdset_a, I16.c_length, I16.one, I16.flat, bsl_flat]) only [qdcpb2, ↓brun_b, Nat.reduceBEq]
    refine hf _ (Sem.go (k := 1000) ?_)
    simp (decide := true) only [back_mk, backL_row, backL_nil, Nat.zero_add]
    simp -dsimp (decide := true) (disch := first | omega | simp (decide := true) only [bdset_a, I16.c_length, I16.one, I16.flat, bsl_flat]) only [qdcpb2, ↓brun_b, Nat.reduceBEq, Int.reduceToNat, hs, hd, hd2]
    refine SemOps.callw [0] cal.f172 (hfl) rfl rfl rfl (by simp -dsimp (decide := true) (disch := first | omega | simp (decide := true) only [bdset_a, I16.c_length, I16.one, I16.flat, bsl_flat]) only [qdcpb3, ↓brun_b, Nat.reduceBEq]) rfl (by simp -dsimp (decide := true) (disch := first | omega | simp (decide := true) only [bdset_a, I16.c_length, I16.one, I16.flat, bsl_flat]) only [qdcpb3]) (by simp -dsimp (decide := true) (disch := first | omega | simp (decide := true) only [bdset_a, I16.c_length, I16.one, I16.flat, bsl_flat]) only [qdcpb5]) ?_
    refine SemOps.go (k := 1000) ?_
    simp -dsimp (decide := true) (disch := first | omega | simp (decide := true) only [bdset_a, I16.c_length, I16.one, I16.flat, bsl_flat]) only [qdcpb2, ↓brun_b]
    refine SQ.runL (rs := [.tmp 8]) [0] _ _ rfl (And.intro rfl rfl) (by decide) rfl rfl ?_ ?_
    · simp -dsimp (decide := true) (disch := first | omega | simp (decide := true) only [bdset_a, I16.c_length, I16.one, I16.flat, bsl_flat]) only [qdcpb3]
    · simp -dsimp (decide := true) (disch := first | omega | simp (decide := true) only [bdset_a, I16.c_length, I16.one, I16.flat, bsl_flat]) only [qdcpb3, ↓brun_b]
  have hd2 : decide ((hi : Int) < (n : Int)) = false := decide_eq_false (by omega)
  rw [if_neg (by omega)]
  refine SCall.mk (fn := Try.f163) (by kernel_rfl) rfl (Nat.le_of_ble_eq_true (by kernel_rfl)) ?_
  refine Sem.go (k := 1000) ?_
  simp -dsimp (decide := true) (disch := first | omega | simp (decide := true) only [bdset_a, I16.c_length, I16.one, I16.flat, bsl_flat]) only [qdcpb2, ↓brun_b, envOf, Nat.reduceAdd, Nat.reduceBEq]
  refine Sem.draw' (by kernel_rfl) (.one 0 (.one 1 (.one 2 (.one 3 (.one 4 (.one 5 (.one 6 (.one 7 (.alt 8 (.one 9 (.one 10 (.one 11 (.one 12 (.one 13 (.one 14 (.one 15 .done))))))) .non))))))))) [] (by kernel_rfl) (fun G ff hG hf => ?_)
  simp (decide := true) only [qdcpb4] at hG ⊢
  simp -dsimp (decide := true) (disch := first | omega | simp (decide := true) only [bdset_a, I16.c_length, I16.one, I16.flat, bsl_flat]) only [qdcpb2, ↓brun_b, Nat.reduceBEq, hG]
  refine OpSem.callq cal.f67 (hc) rfl rfl rfl (by simp only [bflat_a]) (by simp only [bflat_a]) (by simp -dsimp (decide := true) (disch := first | omega | simp (decide := true) only [bdset_a, I16.c_length, I16.one, I16.flat, bsl_flat]) only [qdcpb5]) ?_
  simp -dsimp (decide := true) (disch := first | omega | simp (decide := true) only [bdset_a, I16.c_length, I16.one, I16.flat, bsl_flat]) only [qdcpb2, ↓brun_b, Nat.reduceBEq]
  refine hf _ (Sem.go (k := 1000) ?_)
  simp (decide := true) only [back_mk, backL_row, backL_nil, Nat.zero_add]
  simp -dsimp (decide := true) (disch := first | omega | simp (decide := true) only [bdset_a, I16.c_length, I16.one, I16.flat, bsl_flat]) only [qdcpb2, ↓brun_b, Nat.reduceBEq, Int.reduceToNat, hs, hd, hd2, hw]
  refine SQ.runL (rs := [.tmp 8]) [0] _ _ rfl (And.intro rfl rfl) (by decide) rfl rfl ?_ ?_
  · simp -dsimp (decide := true) (disch := first | omega | simp (decide := true) only [bdset_a, I16.c_length, I16.one, I16.flat, bsl_flat]) only [qdcpb3]
  · simp -dsimp (decide := true) (disch := first | omega | simp (decide := true) only [bdset_a, I16.c_length, I16.one, I16.flat, bsl_flat]) only [qdcpb3, ↓brun_b]
def qdcpb6 :=
  (And.intro qdcpc0 (And.intro qdcpc1 @tab.u36))
def qdcpb7 :=
  (And.intro (And.intro (And.intro qdcpc0 qdcpc1) (And.intro @Int.cast_ofNat_Int @bwk_a)) (And.intro (And.intro @eq_self.{1} @forall_const.{1}) (And.intro @implies_true.{0} (And.intro @implies_true.{1} @tab.u36))))
def qdcpb8 :=
  (And.intro qdcpc1 @tab.u36)
def qdcpb9 :=
  (And.intro (And.intro (And.intro qdcpc0 qdcpc1) (And.intro @bwk_a @eq_self.{1})) (And.intro (And.intro @forall_const.{1} @implies_true.{0}) (And.intro @implies_true.{1} @tab.u36)))
set_option maxHeartbeats 4000000 in
theorem qany_takes : Qtakes 164 [] (qnum 0 9223372036854775807 2) (fun n => .v (.int .i64 (n : Int))) := by
  intro b p e hb hp
  have hc := qnum_takes 0 9223372036854775807 2 (by decide) (by decide) b p e hb hp
  generalize qnum 0 9223372036854775807 2 b p e = r at *
  refine SCall.mk (fn := Try.f164) (by kernel_rfl) rfl (Nat.le_of_ble_eq_true (by kernel_rfl)) ?_
  refine Sem.go (k := 1000) ?_
  simp -dsimp (decide := true) (disch := first | omega | simp (decide := true) only [bdset_a, I16.c_length, I16.one, I16.flat, bsl_flat]) only [qdcpb6, ↓brun_b, envOf, Nat.reduceBEq]
  refine SemOps.callw [0] cal.f163 (hc) rfl rfl rfl (by simp -dsimp (decide := true) (disch := first | omega | simp (decide := true) only [bdset_a, I16.c_length, I16.one, I16.flat, bsl_flat]) only [qdcpb7, ↓brun_b]) rfl (by simp -dsimp (decide := true) (disch := first | omega | simp (decide := true) only [bdset_a, I16.c_length, I16.one, I16.flat, bsl_flat]) only [qdcpb7]) (by simp -dsimp (decide := true) (disch := first | omega | simp (decide := true) only [bdset_a, I16.c_length, I16.one, I16.flat, bsl_flat]) only [qdcpb8]) ?_
  refine SemOps.go (k := 1000) ?_
  simp -dsimp (decide := true) (disch := first | omega | simp (decide := true) only [bdset_a, I16.c_length, I16.one, I16.flat, bsl_flat]) only [qdcpb6, ↓brun_b]
  refine SQ.runL (rs := [.tmp 2]) [0] _ _ rfl (And.intro rfl rfl) (by decide) rfl rfl ?_ ?_
  · simp -dsimp (decide := true) (disch := first | omega | simp (decide := true) only [bdset_a, I16.c_length, I16.one, I16.flat, bsl_flat]) only [qdcpb9]
  · simp -dsimp (decide := true) (disch := first | omega | simp (decide := true) only [bdset_a, I16.c_length, I16.one, I16.flat, bsl_flat]) only [qdcpb9, ↓brun_b]
def qid : Qr I16 := fun b p e =>
  if e ≠ 0 then (I16.zero, p, e) else match ridI b p with
  | .error e2 => (I16.zero, p, e2)
  | .ok (x, q) => (x, q, 0)
def qtext (most : Int) : Qr (List UInt8) := fun b p e =>
  if e ≠ 0 then ([], p, e) else match rtext most b p with
  | .error e2 => ([], p, e2)
  | .ok (x, q) => (x, q, 0)
theorem b23z : sBuild Try.prog 23 [] = some ⟨.agg I16.zero.c, {}, True⟩ := by kernel_rfl
def qdcpb10 :=
  (And.intro (And.intro (And.intro qdcpc0 qdcpc1) (And.intro qdcpc2 @I16.part)) (And.intro (And.intro @al23n @b23z) (And.intro @i16n_set (And.intro @tab.a23 @tab.s23))))
def qdcpb11 :=
  (And.intro (And.intro (And.intro qdcpc0 qdcpc1) (And.intro qdcpc2 (And.intro @bwk_a @eq_self.{1}))) (And.intro (And.intro @forall_const.{1} @implies_true.{0}) (And.intro @implies_true.{1} (And.intro @tab.a23 @tab.s23))))
def qdcpb12 :=
  (And.intro (And.intro (And.intro qdcpc0 qdcpc1) (And.intro qdcpc2 (And.intro @I16.part @bwk_a))) (And.intro (And.intro @eq_self.{1} (And.intro @forall_const.{1} @implies_true.{0})) (And.intro @implies_true.{1} (And.intro @tab.a23 @tab.s23))))
def qdcpb13 :=
  (And.intro (And.intro qdcpc0 (And.intro qdcpc1 qdcpc2)) (And.intro @al23n (And.intro @tab.a23 @tab.s23)))
def qdcpb14 :=
  (And.intro (And.intro qdcpc1 qdcpc2) (And.intro @tab.a23 @tab.s23))
def qdcpb15 :=
  (And.intro (And.intro qdcpc0 (And.intro qdcpc1 qdcpc2)) (And.intro (And.intro @al23n @i16n_set) (And.intro @tab.a23 @tab.s23)))
def qdcpb16 :=
  (And.intro (And.intro qdcpc0 qdcpc1) (And.intro qdcpc2 (And.intro @tab.a23 @tab.s23)))
def qdcpb17 :=
  (And.intro (And.intro (And.intro qdcpc0 qdcpc1) (And.intro qdcpc2 @I16.part)) (And.intro (And.intro @b23z @i16n_set) (And.intro @tab.a23 @tab.s23)))
def qdcpb18 :=
  (And.intro (And.intro qdcpc0 (And.intro qdcpc1 qdcpc2)) (And.intro (And.intro @I16.part @i16n_set) (And.intro @tab.a23 @tab.s23)))
set_option maxHeartbeats 4000000 in
theorem qid_takes : Qtakes 165 [] qid (fun x => .agg x.c) := by
  intro b p e hb hp
  by_cases he : e = 0
  rotate_left
  · have hq : qid b p e = (I16.zero, p, e) := by unfold qid; rw [if_pos he]
    rw [hq]
    have hd : decide (e = 0) = false := decide_eq_false he
    refine SCall.mk (fn := Try.f165) (by kernel_rfl) rfl (Nat.le_of_ble_eq_true (by kernel_rfl)) ?_
    refine Sem.go (k := 1000) ?_
    simp -dsimp (decide := true) (disch := first | omega | simp (decide := true) only [bdset_a, I16.c_length, I16.one, I16.flat, bsl_flat]) only [qdcpb10, ↓brun_b, envOf, Nat.reduceAdd, Nat.reduceBEq, hd]
    refine SQ.runL (rs := [.cell 2 23]) [0] _ _ rfl (And.intro rfl rfl) (by decide) rfl rfl ?_ ?_
    · simp -dsimp (decide := true) (disch := first | omega | simp (decide := true) only [bdset_a, I16.c_length, I16.one, I16.flat, bsl_flat]) only [qdcpb11, Nat.reduceAdd]
    · simp -dsimp (decide := true) (disch := first | omega | simp (decide := true) only [bdset_a, I16.c_length, I16.one, I16.flat, bsl_flat]) only [qdcpb12, ↓brun_b, Nat.reduceAdd, Nat.reduceBEq]
  subst he
  have hc := refID_calls b p (by omega) hp
  rcases hg : getID b p with ⟨y, q, e2⟩
  have hy : y.length = 16 := by have := getID_len b p; rw [hg] at this; exact this
  rw [hg] at hc
  simp only [ires] at hc
  rw [← bI_c y hy] at hc
  have hr : ridI b p = if e2 ≠ 0 then .error e2 else .ok (bI y hy, q) := by
    unfold ridI rid
    rw [hg]
    simp only
    by_cases h : e2 = 0
    · simp [h, hy]
    · simp [h]
  have hq : qid b p 0 = if e2 ≠ 0 then (I16.zero, p, e2) else (bI y hy, q, 0) := by
    unfold qid
    rw [if_neg (by simp), hr]
    by_cases h : e2 = 0 <;> simp [h]
  rw [hq]
  generalize bI y hy = x at *
  by_cases h2 : e2 = 0
  rotate_left
  · have hd : decide (e2 = 0) = false := decide_eq_false h2
    have hfl := fail_calls b p e2
    rw [if_pos h2]
    refine SCall.mk (fn := Try.f165) (by kernel_rfl) rfl (Nat.le_of_ble_eq_true (by kernel_rfl)) ?_
    refine Sem.go (k := 1000) ?_
    simp -dsimp (decide := true) (disch := first | omega | simp (decide := true) only [bdset_a, I16.c_length, I16.one, I16.flat, bsl_flat]) only [qdcpb13, ↓brun_b, envOf, Nat.reduceAdd, Nat.reduceBEq]
    refine Sem.draw' (by kernel_rfl) (.one 0 (.one 1 (.one 2 (.one 3 (.one 4 (.one 5 (.one 6 (.one 7 (.alt 8 (.one 9 (.one 10 (.one 11 (.one 12 (.alt 13 (.alt 14 (.one 15 (.one 16 .done)) .non) .non))))) (.alt 13 (.alt 8 (.one 9 (.one 10 (.one 11 (.one 12 (.alt 14 (.one 15 (.one 16 .done)) .non))))) .non) .non)))))))))) [] (by kernel_rfl) (fun G ff hG hf => ?_)
    simp (decide := true) only [qdcpb4, Nat.reduceAdd] at hG ⊢
    simp -dsimp (decide := true) (disch := first | omega | simp (decide := true) only [bdset_a, I16.c_length, I16.one, I16.flat, bsl_flat]) only [qdcpb13, ↓brun_b, Nat.reduceAdd, Nat.reduceBEq, hG]
    (repeat' refine And.intro ?_ ?_)
    all_goals
      refine OpSem.callq cal.f70 (hc) rfl rfl rfl (by simp only [bflat_a]) (by simp only [bflat_a, I16.flat]) (by simp -dsimp (decide := true) (disch := first | omega | simp (decide := true) only [bdset_a, I16.c_length, I16.one, I16.flat, bsl_flat]) only [qdcpb14]) ?_
      simp -dsimp (decide := true) (disch := first | omega | simp (decide := true) only [bdset_a, I16.c_length, I16.one, I16.flat, bsl_flat]) only [qdcpb15, ↓brun_b, Nat.reduceAdd, Nat.reduceBEq]
      (repeat' refine And.intro ?_ ?_)
      all_goals
        refine hf _ (Sem.go (k := 1000) ?_)
        simp (decide := true) only [back_mk, backL_row, backL_nil, Nat.zero_add, Nat.reduceAdd]
        simp -dsimp (decide := true) (disch := first | omega | simp (decide := true) only [bdset_a, I16.c_length, I16.one, I16.flat, bsl_flat]) only [qdcpb16, ↓brun_b, Nat.reduceAdd, Nat.reduceBEq, hd]
        refine SemOps.callw [0] cal.f172 (hfl) rfl rfl rfl (by simp -dsimp (decide := true) (disch := first | omega | simp (decide := true) only [bdset_a, I16.c_length, I16.one, I16.flat, bsl_flat]) only [qdcpb11, ↓brun_b, Nat.reduceAdd, Nat.reduceBEq]) rfl (by simp -dsimp (decide := true) (disch := first | omega | simp (decide := true) only [bdset_a, I16.c_length, I16.one, I16.flat, bsl_flat]) only [qdcpb11, Nat.reduceAdd]) (by simp -dsimp (decide := true) (disch := first | omega | simp (decide := true) only [bdset_a, I16.c_length, I16.one, I16.flat, bsl_flat]) only [qdcpb14]) ?_
        refine SemOps.go (k := 1000) ?_
        simp -dsimp (decide := true) (disch := first | omega | simp (decide := true) only [bdset_a, I16.c_length, I16.one, I16.flat, bsl_flat]) only [qdcpb17, ↓brun_b, Nat.reduceAdd, Nat.reduceBEq]
        refine SQ.runL (rs := [.cell 2 23]) [0] _ _ rfl (And.intro rfl rfl) (by decide) rfl rfl ?_ ?_
        · simp -dsimp (decide := true) (disch := first | omega | simp (decide := true) only [bdset_a, I16.c_length, I16.one, I16.flat, bsl_flat]) only [qdcpb11, Nat.reduceAdd]
        · simp -dsimp (decide := true) (disch := first | omega | simp (decide := true) only [bdset_a, I16.c_length, I16.one, I16.flat, bsl_flat]) only [qdcpb12, ↓brun_b, Nat.reduceAdd, Nat.reduceBEq]
  · subst h2
    rw [if_neg (by simp)]
    refine SCall.mk (fn := Try.f165) (by kernel_rfl) rfl (Nat.le_of_ble_eq_true (by kernel_rfl)) ?_
    refine Sem.go (k := 1000) ?_
    simp -dsimp (decide := true) (disch := first | omega | simp (decide := true) only [bdset_a, I16.c_length, I16.one, I16.flat, bsl_flat]) only [qdcpb13, ↓brun_b, envOf, Nat.reduceAdd, Nat.reduceBEq]
    refine Sem.draw' (by kernel_rfl) (.one 0 (.one 1 (.one 2 (.one 3 (.one 4 (.one 5 (.one 6 (.one 7 (.alt 8 (.one 9 (.one 10 (.one 11 (.one 12 (.alt 13 (.alt 14 (.one 15 (.one 16 .done)) .non) .non))))) (.alt 13 (.alt 8 (.one 9 (.one 10 (.one 11 (.one 12 (.alt 14 (.one 15 (.one 16 .done)) .non))))) .non) .non)))))))))) [] (by kernel_rfl) (fun G ff hG hf => ?_)
    simp (decide := true) only [qdcpb4, Nat.reduceAdd] at hG ⊢
    simp -dsimp (decide := true) (disch := first | omega | simp (decide := true) only [bdset_a, I16.c_length, I16.one, I16.flat, bsl_flat]) only [qdcpb13, ↓brun_b, Nat.reduceAdd, Nat.reduceBEq, hG]
    (repeat' refine And.intro ?_ ?_)
    all_goals
      refine OpSem.callq cal.f70 (hc) rfl rfl rfl (by simp only [bflat_a]) (by simp only [bflat_a, I16.flat]) (by simp -dsimp (decide := true) (disch := first | omega | simp (decide := true) only [bdset_a, I16.c_length, I16.one, I16.flat, bsl_flat]) only [qdcpb14]) ?_
      simp -dsimp (decide := true) (disch := first | omega | simp (decide := true) only [bdset_a, I16.c_length, I16.one, I16.flat, bsl_flat]) only [qdcpb15, ↓brun_b, Nat.reduceAdd, Nat.reduceBEq]
      (repeat' refine And.intro ?_ ?_)
      all_goals
        refine hf _ (Sem.go (k := 1000) ?_)
        simp (decide := true) only [back_mk, backL_row, backL_nil, Nat.zero_add, Nat.reduceAdd]
        simp -dsimp (decide := true) (disch := first | omega | simp (decide := true) only [bdset_a, I16.c_length, I16.one, I16.flat, bsl_flat]) only [qdcpb18, ↓brun_b, Nat.reduceAdd, Nat.reduceBEq]
        refine SQ.runL (rs := [.cell 2 23]) [0] _ _ rfl (And.intro rfl rfl) (by decide) rfl rfl ?_ ?_
        · simp -dsimp (decide := true) (disch := first | omega | simp (decide := true) only [bdset_a, I16.c_length, I16.one, I16.flat, bsl_flat]) only [qdcpb11, Nat.reduceAdd]
        · simp -dsimp (decide := true) (disch := first | omega | simp (decide := true) only [bdset_a, I16.c_length, I16.one, I16.flat, bsl_flat]) only [qdcpb12, ↓brun_b, Nat.reduceAdd, Nat.reduceBEq]
def qdcpb19 :=
  (And.intro (And.intro (And.intro qdcpc0 qdcpc1) (And.intro qdcpc2 @brows_nil)) (And.intro (And.intro @bwk_a @eq_self.{1}) (And.intro @forall_const.{1} (And.intro @implies_true.{0} @implies_true.{1}))))
def qdcpb20 :=
  (And.intro qdcpc1 qdcpc2)
set_option maxHeartbeats 4000000 in
theorem qtext_takes (most : Int) (hm : most < 9223372036854775808) : Qtakes 166 [.v (.int .i64 most)] (qtext most) (fun x => bsl x) := by
  intro b p e hb hp
  by_cases he : e = 0
  rotate_left
  · have hq : qtext most b p e = ([], p, e) := by unfold qtext; rw [if_pos he]
    rw [hq]
    have hd : decide (e = 0) = false := decide_eq_false he
    refine SCall.mk (fn := Try.f166) (by kernel_rfl) rfl (Nat.le_of_ble_eq_true (by kernel_rfl)) ?_
    refine Sem.go (k := 1000) ?_
    simp -dsimp (decide := true) (disch := first | omega | simp (decide := true) only [bdset_a, I16.c_length, I16.one, I16.flat, bsl_flat]) only [qdcpb0, ↓brun_b, envOf, Nat.reduceBEq, hd]
    refine SQ.runL (rs := [.tmp 4]) [0] _ _ rfl (And.intro rfl rfl) (by decide) rfl rfl ?_ ?_
    · simp -dsimp (decide := true) (disch := first | omega | simp (decide := true) only [bdset_a, I16.c_length, I16.one, I16.flat, bsl_flat]) only [qdcpb1]
    · simp -dsimp (decide := true) (disch := first | omega | simp (decide := true) only [bdset_a, I16.c_length, I16.one, I16.flat, bsl_flat]) only [qdcpb19, ↓brun_b, bsl]
  subst he
  have hc := refText_calls b p most (by omega) hp hm
  rcases hg : getText b p most with ⟨y, q, e2⟩
  rw [hg] at hc
  simp only [tres] at hc
  have hq : qtext most b p 0 = if e2 ≠ 0 then ([], p, e2) else (y, q, 0) := by
    unfold qtext rtext
    rw [if_neg (by simp), hg]
    simp only
    by_cases h : e2 = 0 <;> simp [h]
  rw [hq]
  by_cases h2 : e2 = 0
  rotate_left
  · have hd : decide (e2 = 0) = false := decide_eq_false h2
    have hfl := fail_calls b p e2
    rw [if_pos h2]
    refine SCall.mk (fn := Try.f166) (by kernel_rfl) rfl (Nat.le_of_ble_eq_true (by kernel_rfl)) ?_
    refine Sem.go (k := 1000) ?_
    simp -dsimp (decide := true) (disch := first | omega | simp (decide := true) only [bdset_a, I16.c_length, I16.one, I16.flat, bsl_flat]) only [qdcpb0, ↓brun_b, envOf, Nat.reduceBEq]
    refine Sem.draw' (by kernel_rfl) (.one 0 (.one 1 (.one 2 (.one 3 (.one 4 (.one 5 (.one 6 (.one 7 (.one 8 (.alt 9 (.one 10 (.one 11 (.one 12 (.one 13 (.one 14 (.one 15 (.one 16 .done))))))) .non)))))))))) [] (by kernel_rfl) (fun G ff hG hf => ?_)
    simp (decide := true) only [qdcpb4] at hG ⊢
    simp -dsimp (decide := true) (disch := first | omega | simp (decide := true) only [bdset_a, I16.c_length, I16.one, I16.flat, bsl_flat]) only [qdcpb0, ↓brun_b, Nat.reduceBEq, hG]
    refine OpSem.callq cal.f68 (hc) rfl rfl rfl (by simp only [bflat_a]) (by simp only [bflat_a]) (by simp -dsimp (decide := true) (disch := first | omega | simp (decide := true) only [bdset_a, I16.c_length, I16.one, I16.flat, bsl_flat]) only [qdcpb20]) ?_
    simp -dsimp (decide := true) (disch := first | omega | simp (decide := true) only [bdset_a, I16.c_length, I16.one, I16.flat, bsl_flat]) only [qdcpb0, ↓brun_b, Nat.reduceBEq]
    refine hf _ (Sem.go (k := 1000) ?_)
    simp (decide := true) only [back_mk, backL_row, backL_nil, Nat.zero_add]
    simp -dsimp (decide := true) (disch := first | omega | simp (decide := true) only [bdset_a, I16.c_length, I16.one, I16.flat, bsl_flat]) only [qdcpb0, ↓brun_b, Nat.reduceBEq, hd]
    refine SemOps.callw [0] cal.f172 (hfl) rfl rfl rfl (by simp -dsimp (decide := true) (disch := first | omega | simp (decide := true) only [bdset_a, I16.c_length, I16.one, I16.flat, bsl_flat]) only [qdcpb1, ↓brun_b, Nat.reduceBEq]) rfl (by simp -dsimp (decide := true) (disch := first | omega | simp (decide := true) only [bdset_a, I16.c_length, I16.one, I16.flat, bsl_flat]) only [qdcpb1]) (by simp -dsimp (decide := true) (disch := first | omega | simp (decide := true) only [bdset_a, I16.c_length, I16.one, I16.flat, bsl_flat]) only [qdcpb20]) ?_
    refine SemOps.go (k := 1000) ?_
    simp -dsimp (decide := true) (disch := first | omega | simp (decide := true) only [bdset_a, I16.c_length, I16.one, I16.flat, bsl_flat]) only [qdcpb0, ↓brun_b]
    refine SQ.runL (rs := [.tmp 4]) [0] _ _ rfl (And.intro rfl rfl) (by decide) rfl rfl ?_ ?_
    · simp -dsimp (decide := true) (disch := first | omega | simp (decide := true) only [bdset_a, I16.c_length, I16.one, I16.flat, bsl_flat]) only [qdcpb1]
    · simp -dsimp (decide := true) (disch := first | omega | simp (decide := true) only [bdset_a, I16.c_length, I16.one, I16.flat, bsl_flat]) only [qdcpb19, ↓brun_b, bsl]
  · subst h2
    rw [if_neg (by simp)]
    refine SCall.mk (fn := Try.f166) (by kernel_rfl) rfl (Nat.le_of_ble_eq_true (by kernel_rfl)) ?_
    refine Sem.go (k := 1000) ?_
    simp -dsimp (decide := true) (disch := first | omega | simp (decide := true) only [bdset_a, I16.c_length, I16.one, I16.flat, bsl_flat]) only [qdcpb0, ↓brun_b, envOf, Nat.reduceBEq]
    refine Sem.draw' (by kernel_rfl) (.one 0 (.one 1 (.one 2 (.one 3 (.one 4 (.one 5 (.one 6 (.one 7 (.one 8 (.alt 9 (.one 10 (.one 11 (.one 12 (.one 13 (.one 14 (.one 15 (.one 16 .done))))))) .non)))))))))) [] (by kernel_rfl) (fun G ff hG hf => ?_)
    simp (decide := true) only [qdcpb4] at hG ⊢
    simp -dsimp (decide := true) (disch := first | omega | simp (decide := true) only [bdset_a, I16.c_length, I16.one, I16.flat, bsl_flat]) only [qdcpb0, ↓brun_b, Nat.reduceBEq, hG]
    refine OpSem.callq cal.f68 (hc) rfl rfl rfl (by simp only [bflat_a]) (by simp only [bflat_a]) (by simp -dsimp (decide := true) (disch := first | omega | simp (decide := true) only [bdset_a, I16.c_length, I16.one, I16.flat, bsl_flat]) only [qdcpb20]) ?_
    simp -dsimp (decide := true) (disch := first | omega | simp (decide := true) only [bdset_a, I16.c_length, I16.one, I16.flat, bsl_flat]) only [qdcpb0, ↓brun_b, Nat.reduceBEq]
    refine hf _ (Sem.go (k := 1000) ?_)
    simp (decide := true) only [back_mk, backL_row, backL_nil, Nat.zero_add]
    simp -dsimp (decide := true) (disch := first | omega | simp (decide := true) only [bdset_a, I16.c_length, I16.one, I16.flat, bsl_flat]) only [qdcpb0, ↓brun_b, Nat.reduceBEq]
    refine SQ.runL (rs := [.tmp 4]) [0] _ _ rfl (And.intro rfl rfl) (by decide) rfl rfl ?_ ?_
    · simp -dsimp (decide := true) (disch := first | omega | simp (decide := true) only [bdset_a, I16.c_length, I16.one, I16.flat, bsl_flat]) only [qdcpb1]
    · simp -dsimp (decide := true) (disch := first | omega | simp (decide := true) only [bdset_a, I16.c_length, I16.one, I16.flat, bsl_flat]) only [qdcpb1, ↓brun_b]
end Go.Proofs
namespace Go.Proofs
open Go Go.SL
set_option maxRecDepth 100000
def lcell (z : Nat) (t : Bool) (rows : List (List SV)) : SV := match t with
  | true => .rsl z rows
  | false => .v (.slice none 0 0)
theorem lcell_flat1 (t : Bool) (l : List Int) : (lcell 1 t (lrows l)).flat = true := by cases t <;> simp only [lcell, flat_v, flat_rsl, lrows_flat]
theorem lcell_flat2 (t : Bool) (l : List I16) : (lcell 16 t (idrs l)).flat = true := by cases t <;> simp only [lcell, flat_v, flat_rsl, idrs_flat]
structure Qs where
  F : Frm
  rt : Bool
  st : Bool
  p : Int
  e : Int
def Qs.fc (Q : Qs) : FC := ⟨.v (.int .i64 Q.F.kind), Q.F.who, .v (.int .i64 Q.F.pn), .v (.bool Q.F.toA), Q.F.a, Q.F.b, .v (.int .i64 Q.F.n), .v (.int .i64 Q.F.fi), .v (.int .i64 Q.F.fn), .v (.int .i64 Q.F.ti), .v (.int .i64 Q.F.tn), lcell 1 Q.rt (lrows Q.F.tr), lcell 16 Q.st (idrs Q.F.is), Q.F.key, .v (.int .i64 Q.F.vn), Q.F.vwho, bsl Q.F.val, .v (.int .i64 Q.F.op), .v (.int .i64 Q.F.ttl), bsl Q.F.tx⟩
def qany : Qr Nat := qnum 0 9223372036854775807 2
def qlegs (b : List UInt8) : Nat → List Int → Int → Int → List Int × Int × Int
  | 0, l, p, e => (l, p, e)
  | n + 1, l, p, e => qlegs b n (l ++ [((qnum 0 5 2 b p e).1 : Int)]) (qnum 0 5 2 b p e).2.1 (qnum 0 5 2 b p e).2.2
def qids (b : List UInt8) : Nat → List I16 → Int → Int → List I16 × Int × Int
  | 0, l, p, e => (l, p, e)
  | n + 1, l, p, e => qids b n (l ++ [(qid b p e).1]) (qid b p e).2.1 (qid b p e).2.2
theorem qnum_at {lo hi : Nat} {err : Int} {b : List UInt8} {p e : Int} {x : Nat} {p' e' : Int} (hb : b.length ≤ 140737488355328) (hp : I64 p) (h : qnum lo hi err b p e = (x, p', e')) : I64 p' := by
  unfold qnum at h
  split at h
  · injection h with _ h; injection h with h _; rw [← h]; exact hp
  · rcases hg : getNum b p with ⟨n, q, e2⟩
    rw [hg] at h
    simp only at h
    split at h
    · injection h with _ h; injection h with h _; rw [← h]; exact hp
    · rename_i h2
      have h2 : e2 = 0 := by omega
      subst h2
      have := getNum_at b p n q hg
      split at h
      · injection h with _ h; injection h with h _; rw [← h]; exact hp
      · split at h
        · injection h with _ h; injection h with h _; rw [← h]; exact hp
        · injection h with _ h; injection h with h _; rw [← h]; unfold I64; omega
theorem qnum_le {lo hi : Nat} {err : Int} {b : List UInt8} {p e : Int} {x : Nat} {p' e' : Int} (h : qnum lo hi err b p e = (x, p', e')) : x ≤ hi := by
  unfold qnum at h
  split at h
  · injection h with h _; omega
  · rcases hg : getNum b p with ⟨n, q, e2⟩
    rw [hg] at h
    simp only at h
    split at h
    · injection h with h _; omega
    · split at h
      · injection h with h _; omega
      · split at h
        · injection h with h _; omega
        · injection h with h _; omega
theorem FC.put_tr (x : FC) (v : SV) : x.c.set 56 v = FC.c { x with tr := v } := by simp [FC.c, I16.c_length]
theorem FC.get_tr (x : FC) : x.c[56]? = some x.tr := by simp [FC.c, I16.c_length]
theorem qid_at {b : List UInt8} {p e : Int} {x : I16} {p' e' : Int} (hb : b.length ≤ 140737488355328) (hp : I64 p) (h : qid b p e = (x, p', e')) : I64 p' := by
  unfold qid at h
  split at h
  · injection h with _ h; injection h with h _; rw [← h]; exact hp
  · rcases hg : ridI b p with e2 | ⟨y, q⟩
    · rw [hg] at h; injection h with _ h; injection h with h _; rw [← h]; exact hp
    · rw [hg] at h; injection h with _ h; injection h with h _; rw [← h]; exact ridI_at.i64 hb hg
theorem qtext_at {most : Int} {b : List UInt8} {p e : Int} {x : List UInt8} {p' e' : Int} (hb : b.length ≤ 140737488355328) (hp : I64 p) (h : qtext most b p e = (x, p', e')) : I64 p' := by
  unfold qtext at h
  split at h
  · injection h with _ h; injection h with h _; rw [← h]; exact hp
  · rcases hg : rtext most b p with e2 | ⟨y, q⟩
    · rw [hg] at h; injection h with _ h; injection h with h _; rw [← h]; exact hp
    · rw [hg] at h; injection h with _ h; injection h with h _; rw [← h]; exact (rtext_at most).i64 hb hg
def qstep (b : List UInt8) (Q : Qs) (c : UInt8) : Qs :=
  if c = 102 then { Q with F := { Q.F with fi := (qany b Q.p Q.e).1, fn := (qany b (qany b Q.p Q.e).2.1 (qany b Q.p Q.e).2.2).1 }, p := (qany b (qany b Q.p Q.e).2.1 (qany b Q.p Q.e).2.2).2.1, e := (qany b (qany b Q.p Q.e).2.1 (qany b Q.p Q.e).2.2).2.2 } else if c = 116 then { Q with F := { Q.F with ti := (qany b Q.p Q.e).1, tn := (qany b (qany b Q.p Q.e).2.1 (qany b Q.p Q.e).2.2).1 }, p := (qany b (qany b Q.p Q.e).2.1 (qany b Q.p Q.e).2.2).2.1, e := (qany b (qany b Q.p Q.e).2.1 (qany b Q.p Q.e).2.2).2.2 } else if c = 110 then { Q with F := { Q.F with n := (qany b Q.p Q.e).1 }, p := (qany b Q.p Q.e).2.1, e := (qany b Q.p Q.e).2.2 } else if c = 112 then { Q with F := { Q.F with who := (qid b Q.p Q.e).1, pn := (qany b (qid b Q.p Q.e).2.1 (qid b Q.p Q.e).2.2).1 }, p := (qany b (qid b Q.p Q.e).2.1 (qid b Q.p Q.e).2.2).2.1, e := (qany b (qid b Q.p Q.e).2.1 (qid b Q.p Q.e).2.2).2.2 } else if c = 97 then { Q with F := { Q.F with a := (qid b Q.p Q.e).1 }, p := (qid b Q.p Q.e).2.1, e := (qid b Q.p Q.e).2.2 } else if c = 98 then { Q with F := { Q.F with b := (qid b Q.p Q.e).1 }, p := (qid b Q.p Q.e).2.1, e := (qid b Q.p Q.e).2.2 } else if c = 100 then { Q with F := { Q.F with toA := decide ((((qnum 0 1 2 b Q.p Q.e).1 : Nat) : Int) = 1) }, p := (qnum 0 1 2 b Q.p Q.e).2.1, e := (qnum 0 1 2 b Q.p Q.e).2.2 } else if c = 105 then { Q with F := { Q.F with key := (qid b Q.p Q.e).1, vn := (qany b (qid b Q.p Q.e).2.1 (qid b Q.p Q.e).2.2).1, vwho := (qid b (qany b (qid b Q.p Q.e).2.1 (qid b Q.p Q.e).2.2).2.1 (qany b (qid b Q.p Q.e).2.1 (qid b Q.p Q.e).2.2).2.2).1, val := (qtext 64 b (qid b (qany b (qid b Q.p Q.e).2.1 (qid b Q.p Q.e).2.2).2.1 (qany b (qid b Q.p Q.e).2.1 (qid b Q.p Q.e).2.2).2.2).2.1 (qid b (qany b (qid b Q.p Q.e).2.1 (qid b Q.p Q.e).2.2).2.1 (qany b (qid b Q.p Q.e).2.1 (qid b Q.p Q.e).2.2).2.2).2.2).1 }, p := (qtext 64 b (qid b (qany b (qid b Q.p Q.e).2.1 (qid b Q.p Q.e).2.2).2.1 (qany b (qid b Q.p Q.e).2.1 (qid b Q.p Q.e).2.2).2.2).2.1 (qid b (qany b (qid b Q.p Q.e).2.1 (qid b Q.p Q.e).2.2).2.1 (qany b (qid b Q.p Q.e).2.1 (qid b Q.p Q.e).2.2).2.2).2.2).2.1, e := (qtext 64 b (qid b (qany b (qid b Q.p Q.e).2.1 (qid b Q.p Q.e).2.2).2.1 (qany b (qid b Q.p Q.e).2.1 (qid b Q.p Q.e).2.2).2.2).2.1 (qid b (qany b (qid b Q.p Q.e).2.1 (qid b Q.p Q.e).2.2).2.1 (qany b (qid b Q.p Q.e).2.1 (qid b Q.p Q.e).2.2).2.2).2.2).2.2 } else if c = 107 then { Q with F := { Q.F with key := (qid b Q.p Q.e).1, vn := (qany b (qid b Q.p Q.e).2.1 (qid b Q.p Q.e).2.2).1, vwho := (qid b (qany b (qid b Q.p Q.e).2.1 (qid b Q.p Q.e).2.2).2.1 (qany b (qid b Q.p Q.e).2.1 (qid b Q.p Q.e).2.2).2.2).1 }, p := (qid b (qany b (qid b Q.p Q.e).2.1 (qid b Q.p Q.e).2.2).2.1 (qany b (qid b Q.p Q.e).2.1 (qid b Q.p Q.e).2.2).2.2).2.1, e := (qid b (qany b (qid b Q.p Q.e).2.1 (qid b Q.p Q.e).2.2).2.1 (qany b (qid b Q.p Q.e).2.1 (qid b Q.p Q.e).2.2).2.2).2.2 } else if c = 108 then { Q with F := { Q.F with op := (qnum 0 3 2 b Q.p Q.e).1 }, p := (qnum 0 3 2 b Q.p Q.e).2.1, e := (qnum 0 3 2 b Q.p Q.e).2.2 } else if c = 111 then { Q with F := { Q.F with op := (qnum 1 4 2 b Q.p Q.e).1 }, p := (qnum 1 4 2 b Q.p Q.e).2.1, e := (qnum 1 4 2 b Q.p Q.e).2.2 } else if c = 119 then { Q with F := { Q.F with ttl := (qnum 0 64 2 b Q.p Q.e).1 }, p := (qnum 0 64 2 b Q.p Q.e).2.1, e := (qnum 0 64 2 b Q.p Q.e).2.2 } else if c = 120 then { Q with F := { Q.F with tx := (qtext 4096 b Q.p Q.e).1 }, p := (qtext 4096 b Q.p Q.e).2.1, e := (qtext 4096 b Q.p Q.e).2.2 } else if c = 121 then { Q with F := { Q.F with tx := (qtext 64 b Q.p Q.e).1 }, p := (qtext 64 b Q.p Q.e).2.1, e := (qtext 64 b Q.p Q.e).2.2 }
  else if c = 114 then { Q with F := { Q.F with tr := (qlegs b (qnum 0 64 4 b Q.p Q.e).1 [] (qnum 0 64 4 b Q.p Q.e).2.1 (qnum 0 64 4 b Q.p Q.e).2.2).1 }, rt := true, p := (qlegs b (qnum 0 64 4 b Q.p Q.e).1 [] (qnum 0 64 4 b Q.p Q.e).2.1 (qnum 0 64 4 b Q.p Q.e).2.2).2.1, e := (qlegs b (qnum 0 64 4 b Q.p Q.e).1 [] (qnum 0 64 4 b Q.p Q.e).2.1 (qnum 0 64 4 b Q.p Q.e).2.2).2.2 }
  else if c = 115 then { Q with F := { Q.F with is := (qids b (qnum 0 16 4 b Q.p Q.e).1 [] (qnum 0 16 4 b Q.p Q.e).2.1 (qnum 0 16 4 b Q.p Q.e).2.2).1 }, st := true, p := (qids b (qnum 0 16 4 b Q.p Q.e).1 [] (qnum 0 16 4 b Q.p Q.e).2.1 (qnum 0 16 4 b Q.p Q.e).2.2).2.1, e := (qids b (qnum 0 16 4 b Q.p Q.e).1 [] (qnum 0 16 4 b Q.p Q.e).2.1 (qnum 0 16 4 b Q.p Q.e).2.2).2.2 }
  else Q
def qall (b : List UInt8) (l : List UInt8) (Q : Qs) : Qs := l.foldl (qstep b) Q
theorem qall_take (b l : List UInt8) (Q : Qs) (i : Nat) (h : i < l.length) : qall b (l.take (i + 1)) Q = qstep b (qall b (l.take i) Q) (l.getD i 0) := by
  unfold qall
  rw [List.take_add_one, List.foldl_append, List.getD_eq_getElem?_getD, List.getElem?_eq_getElem h]
  rfl
theorem entE {fz : Nat → Option SB} {ρ : Nat → Nat} (t : Bool) (l : List Int) : Ent fz ρ (lcell 1 t (lrows l)) (lcell 1 t (lrows l)) := Ent.self (lcell_flat1 t l)
theorem entE2 {fz : Nat → Option SB} {ρ : Nat → Nat} (t : Bool) (l : List I16) : Ent fz ρ (lcell 16 t (idrs l)) (lcell 16 t (idrs l)) := Ent.self (lcell_flat2 t l)
theorem Qfc_ent {fz : Nat → Option SB} {ρ : Nat → Nat} (Q : Qs) : EntL fz ρ Q.fc.c Q.fc.c := by
  unfold Qs.fc
  rw [FC.ent]
  (repeat' apply And.intro) <;> first | exact Ent.self (flat_v _) | exact Ent.self (bsl_flat _) | exact entE _ _ | exact entE2 _ _
theorem mem_take_succ (l : List UInt8) (i : Nat) (h : i < l.length) (c : UInt8) : decide (c ∈ l.take (i + 1)) = (decide (c ∈ l.take i) || decide (l.getD i 0 = c)) := by
  rw [Bool.eq_iff_iff, Bool.or_eq_true, decide_eq_true_eq, decide_eq_true_eq, decide_eq_true_eq, List.take_add_one, List.getElem?_eq_getElem h, List.getD_eq_getElem?_getD, List.getElem?_eq_getElem h, Option.getD_some, Option.toList_some, List.mem_append, List.mem_singleton]
  exact or_congr Iff.rfl eq_comm
theorem nodup_take (l : List UInt8) (hn : l.Nodup) (i : Nat) (h : i < l.length) : l.getD i 0 ∉ l.take i := by
  intro hm
  rw [List.getD_eq_getElem?_getD, List.getElem?_eq_getElem h, Option.getD_some] at hm
  obtain ⟨j, hj, he⟩ := List.mem_iff_getElem.1 hm
  rw [List.getElem_take] at he
  rw [List.length_take] at hj
  exact absurd he (List.pairwise_iff_getElem.1 hn j i (by omega) h (by omega))
def restQ (fn : Func) : Option Go.Code :=
  match fn.body with
  | some (Go.Code.seq _ (Go.Code.seq _ (Go.Code.seq _ (Go.Code.seq _ (Go.Code.seq _ (Go.Code.seq _ (Go.Code.seq c _))))))) => some c
  | _ => none
def qdcpc3 :=
  (And.intro (And.intro (And.intro @FC.flat_eq (And.intro @FC.one_eq @I16.c_length)) (And.intro (And.intro @I16.flat @I16.one) (And.intro @bdset_a @bsl_flat))) (And.intro (And.intro @idrs_flat (And.intro @isl_flat @lcell_flat1)) (And.intro (And.intro @lcell_flat2 @lrows_flat) (And.intro @lsl_flat @zF.eq_1))))
def qdcpb21 :=
  (And.intro (And.intro qdcpc3 @FC.c_length) (And.intro @idrs_len @lrows_length))
def qdcpc4 :=
  (And.intro (And.intro (And.intro (And.intro @FC.at_is (And.intro @FC.at_kind @FC.at_tr)) (And.intro @FC.part (And.intro @FC.set_a @FC.set_all))) (And.intro (And.intro @FC.set_b (And.intro @FC.set_fi @FC.set_fn)) (And.intro (And.intro @FC.set_is @FC.set_key) (And.intro @FC.set_kind @FC.set_n)))) (And.intro (And.intro (And.intro @FC.set_op (And.intro @FC.set_pn @FC.set_ti)) (And.intro (And.intro @FC.set_tn @FC.set_toA) (And.intro @FC.set_tr @FC.set_ttl))) (And.intro (And.intro @FC.set_tx (And.intro @FC.set_val @FC.set_vn)) (And.intro (And.intro @FC.set_vwho @FC.set_who) (And.intro @al151 @build151z)))))
def qdcpc5 :=
  (And.intro (And.intro (And.intro (And.intro (And.intro @tab.a145 @tab.a151) (And.intro @tab.a79 @tab.f135x0)) (And.intro (And.intro @tab.f135x1 @tab.f144x0) (And.intro @tab.f144x1 @tab.f147x0))) (And.intro (And.intro (And.intro @tab.f147x1 @tab.f149x0) (And.intro @tab.f149x1 @tab.f149x2)) (And.intro (And.intro @tab.f151x0 @tab.f151x1) (And.intro @tab.f151x10 @tab.f151x11)))) (And.intro (And.intro (And.intro (And.intro @tab.f151x12 @tab.f151x13) (And.intro @tab.f151x2 @tab.f151x3)) (And.intro (And.intro @tab.f151x4 @tab.f151x5) (And.intro @tab.f151x6 @tab.f151x7))) (And.intro (And.intro (And.intro @tab.f151x8 @tab.f151x9) (And.intro @tab.s145 @tab.s151)) (And.intro (And.intro @tab.s4 @tab.s79) (And.intro @tab.u145 (And.intro @tab.u79 @tab.u9))))))
def qdcpb22 :=
  (And.intro (And.intro (And.intro qdcpc4 (And.intro qdcpc0 qdcpc1)) (And.intro (And.intro qdcpc5 qdcpc2) (And.intro @FC.c_length @Int.cast_ofNat_Int))) (And.intro (And.intro @idrs_len (And.intro @lrows_length @tab.a23)) (And.intro (And.intro @tab.s2 @tab.s23) (And.intro @tab.u2 @tab.u36))))
def qdcpb23 :=
  (And.intro (And.intro (And.intro (And.intro qdcpc4 qdcpc0) (And.intro qdcpc1 qdcpc5)) (And.intro (And.intro qdcpc2 @FC.c_length) (And.intro @Int.cast_ofNat_Int (And.intro @bwk_a @eq_self.{1})))) (And.intro (And.intro (And.intro @forall_const.{1} @idrs_len) (And.intro @implies_true.{0} (And.intro @implies_true.{1} @lrows_length))) (And.intro (And.intro @tab.a23 @tab.s2) (And.intro @tab.s23 (And.intro @tab.u2 @tab.u36)))))
def qdcpb24 :=
  (And.intro (And.intro (And.intro qdcpc1 qdcpc5) (And.intro qdcpc2 @tab.a23)) (And.intro (And.intro @tab.s2 @tab.s23) (And.intro @tab.u2 @tab.u36)))
def qdcpb25 :=
  (And.intro (And.intro (And.intro (And.intro qdcpc4 qdcpc0) (And.intro qdcpc1 (And.intro qdcpc5 qdcpc2))) (And.intro (And.intro @FC.c_length (And.intro @FC.ent @FC.put_tr)) (And.intro @Int.cast_ofNat_Int (And.intro @List.length_nil.{0} @bwk_a)))) (And.intro (And.intro (And.intro @eq_self.{1} @forall_const.{1}) (And.intro @idrs_len (And.intro @implies_true.{0} @implies_true.{1}))) (And.intro (And.intro @lrows_length (And.intro @tab.a23 @tab.s2)) (And.intro @tab.s23 (And.intro @tab.u2 @tab.u36)))))
def qdcpb26 :=
  (And.intro (And.intro (And.intro qdcpc4 (And.intro qdcpc0 qdcpc1)) (And.intro (And.intro qdcpc5 qdcpc2) (And.intro @FC.c_length @Int.cast_ofNat_Int))) (And.intro (And.intro (And.intro @bs145 @idrs_len) (And.intro @lrows_length @tab.a23)) (And.intro (And.intro @tab.s2 @tab.s23) (And.intro @tab.u2 @tab.u36))))
def qdcpb27 :=
  (And.intro (And.intro (And.intro (And.intro qdcpc4 qdcpc0) (And.intro qdcpc1 (And.intro qdcpc5 qdcpc2))) (And.intro (And.intro @FC.c_length @FC.ent) (And.intro @Int.cast_ofNat_Int (And.intro @bwk_a @eq_self.{1})))) (And.intro (And.intro (And.intro @forall_const.{1} @idrs_len) (And.intro @implies_true.{0} (And.intro @implies_true.{1} @lrows_length))) (And.intro (And.intro @tab.a23 @tab.s2) (And.intro @tab.s23 (And.intro @tab.u2 @tab.u36)))))
def qdcpb28 :=
  (And.intro (And.intro (And.intro (And.intro qdcpc4 qdcpc0) (And.intro qdcpc1 (And.intro qdcpc5 qdcpc2))) (And.intro (And.intro @FC.c_length (And.intro @FC.ent @FC.put_is)) (And.intro @Int.cast_ofNat_Int (And.intro @List.length_nil.{0} @bwk_a)))) (And.intro (And.intro (And.intro @eq_self.{1} @forall_const.{1}) (And.intro @idrs_len (And.intro @implies_true.{0} @implies_true.{1}))) (And.intro (And.intro @lrows_length (And.intro @tab.a23 @tab.s2)) (And.intro @tab.s23 (And.intro @tab.u2 @tab.u36)))))
def qdcpb29 :=
  (And.intro (And.intro (And.intro qdcpc4 (And.intro qdcpc0 qdcpc1)) (And.intro (And.intro qdcpc5 qdcpc2) (And.intro @FC.c_length @Int.cast_ofNat_Int))) (And.intro (And.intro (And.intro @bs79 @idrs_len) (And.intro @lrows_length @tab.a23)) (And.intro (And.intro @tab.s2 @tab.s23) (And.intro @tab.u2 @tab.u36))))
set_option maxHeartbeats 16000000 in
theorem qloop (b : List UInt8) (hb : b.length ≤ 140737488355328) (l : List UInt8) (hl : l.length < 100) (hs : ∀ c ∈ l, isLet c = true) (hnd : l.Nodup) (Q0 : Qs) (hp0 : I64 Q0.p) (h0r : Q0.rt = false) (h0s : Q0.st = false) (R : SX → St → Prop) (K : List It) (c : Go.Code) (hc : restQ Try.f118 = some c) :
    Go.SL.Sem Try.prog R (.code c :: .inv (fun s' => ∃ l', Wk l' s' ⟨193, 0, [(0, bsl b), (2, .ptr 0 0 0), (3, .v (.int .i64 0)), (4, .ptr 1 0 0), (5, .ptr 2 0 0), (6, .v (.string ⟨l.toArray⟩)), (7, .v (.int .i64 (l.length : Int)))], [some (.row ⟨95, 1, true, 151, fun _ => zF.c⟩), some (.row ⟨3, 1, true, 262, fun _ => [bsl b, .v (.int .i64 (qall b l Q0).p), .v (.int .i64 (qall b l Q0).e)]⟩), some (.row ⟨95, 1, true, 151, fun _ => ((qall b l Q0)).fc.c⟩)]⟩) :: K) ⟨193, 0, [(0, bsl b), (2, .ptr 0 0 0), (3, .v (.int .i64 0)), (4, .ptr 1 0 0), (5, .ptr 2 0 0), (6, .v (.string ⟨l.toArray⟩))], [some (.row ⟨95, 1, true, 151, fun _ => zF.c⟩), some (.row ⟨3, 1, true, 262, fun _ => [bsl b, .v (.int .i64 Q0.p), .v (.int .i64 Q0.e)]⟩), some (.row ⟨95, 1, true, 151, fun _ => Q0.fc.c⟩)]⟩ := by
  cases hc
  refine Sem.go (k := 1000) ?_
  simp -dsimp (decide := true) (disch := first | omega | simp (decide := true) only [qdcpb21]) only [qdcpb22, ↓brun_b, Nat.reduceAdd]
  refine Sem.loop (ι := {i : Nat // i ≤ l.length ∧ I64 (qall b (l.take i) Q0).p ∧ (qall b (l.take i) Q0).rt = decide (114 ∈ l.take i) ∧ (qall b (l.take i) Q0).st = decide (115 ∈ l.take i)}) (fun i => ⟨193, 0, [(0, bsl b), (2, .ptr 0 0 0), (3, .v (.int .i64 0)), (4, .ptr 1 0 0), (5, .ptr 2 0 0), (6, .v (.string ⟨l.toArray⟩)), (7, .v (.int .i64 (i.1 : Int)))], [some (.row ⟨95, 1, true, 151, fun _ => zF.c⟩), some (.row ⟨3, 1, true, 262, fun _ => [bsl b, .v (.int .i64 (qall b (l.take i.1) Q0).p), .v (.int .i64 (qall b (l.take i.1) Q0).e)]⟩), some (.row ⟨95, 1, true, 151, fun _ => ((qall b (l.take i.1) Q0)).fc.c⟩)]⟩) (fun i => l.length - i.1) ⟨0, Nat.zero_le _, hp0, h0r, h0s⟩ [0, 1, 2] ?_ ?_
  · have h0 : qall b (l.take 0) Q0 = Q0 := rfl
    (refine Wk.ofC ?_; simp -dsimp (decide := true) (disch := first | omega | simp (decide := true) only [qdcpb21]) only [qdcpb23, ↓brun_b, Nat.reduceAdd, Nat.reduceBEq, h0])
    exact fun e he => Qfc_ent Q0
  · rintro ⟨i, hi, hip, hir, his⟩
    refine Sem.go (k := 1000) ?_
    have bsz : (⟨l.toArray⟩ : ByteArray).size = l.length := rfl
    simp -dsimp (decide := true) (disch := first | omega | simp (decide := true) only [qdcpb21]) only [qdcpb22, ↓brun_b, Nat.reduceAdd, Nat.reduceBEq, bsz]
    refine SCond.split (fun h1 => ?_) (fun h1 => ?_)
    rotate_left
    · simp only [decide_eq_false_iff_not] at h1
      obtain rfl : i = l.length := by omega
      rw [List.take_length]
      simp -dsimp (decide := true) (disch := first | omega | simp (decide := true) only [qdcpb21]) only [qdcpb22, reduceIte]
      refine ⟨[0, 1, 2], ?_⟩
      (refine Wk.ofC ?_; simp -dsimp (decide := true) (disch := first | omega | simp (decide := true) only [qdcpb21]) only [qdcpb23, ↓brun_b, Nat.reduceAdd, Nat.reduceBEq])
      exact fun e he => Qfc_ent _
    simp only [decide_eq_true_eq] at h1
    have hi' : i < l.length := by omega
    have hwk : IntKind.i64.wrap ((i : Int) + 1) = ((i + 1 : Nat) : Int) := by rw [wrap_i64 _ (by omega)]; rfl
    have hmem : l.getD i 0 ∈ l := by rw [List.getD_eq_getElem?_getD, List.getElem?_eq_getElem hi', Option.getD_some]; exact List.getElem_mem hi'
    have hc := hs _ hmem
    have hGb := qall_take b l Q0 i hi'
    have hch := strAt_form l i
    have hm4 := mem_take_succ l i hi' 114
    have hm5 := mem_take_succ l i hi' 115
    have hnt := nodup_take l hnd i hi'
    generalize qall b (l.take i) Q0 = X at *
    generalize l.getD i 0 = c at *
    obtain ⟨F, rt, st, p, e⟩ := X
    simp only at hip hir his
    have hcs : c = 102 ∨ c = 116 ∨ c = 110 ∨ c = 112 ∨ c = 97 ∨ c = 98 ∨ c = 100 ∨ c = 114 ∨ c = 115 ∨ c = 105 ∨ c = 107 ∨ c = 108 ∨ c = 111 ∨ c = 119 ∨ c = 120 ∨ c = 121 := by
      unfold isLet at hc
      simpa using hc
    rcases hcs with rfl | rfl | rfl | rfl | rfl | rfl | rfl | rfl | rfl | rfl | rfl | rfl | rfl | rfl | rfl | rfl
    · replace hch : strAt ⟨l.toArray⟩ i = 102 := hch
      have hS0 : qstep b ⟨F, rt, st, p, e⟩ 102 = ⟨{ F with fi := (qany b p e).1, fn := (qany b (qany b p e).2.1 (qany b p e).2.2).1 }, rt, st, (qany b (qany b p e).2.1 (qany b p e).2.2).2.1, (qany b (qany b p e).2.1 (qany b p e).2.2).2.2⟩ := rfl
      have hc1 := qany_takes b p e hb hip
      rcases hr1 : qany b p e with ⟨x1, p1, e1⟩
      have hr1' := hr1
      unfold qany at hr1'
      rw [hr1'] at hc1
      simp only at hc1
      have hp1 := qnum_at hb hip hr1'
      have hc2 := qany_takes b p1 e1 hb hp1
      rcases hr2 : qany b p1 e1 with ⟨x2, p2, e2⟩
      have hr2' := hr2
      unfold qany at hr2'
      rw [hr2'] at hc2
      simp only at hc2
      have hp2 := qnum_at hb hp1 hr2'
      simp only [hr1, hr2] at hS0
      rw [hS0] at hGb
      simp -dsimp (decide := true) (disch := first | omega | simp (decide := true) only [qdcpb21]) only [qdcpb22, ↓brun_b, Nat.reduceAdd, Nat.reduceBEq, Qs.fc, hch, bsz]
      repeat (refine And.intro (by omega) ?_)
      refine SemOps.callw [1] cal.f164 (hc1) rfl rfl rfl (by simp -dsimp (decide := true) (disch := first | omega | simp (decide := true) only [qdcpb21]) only [qdcpb23, ↓brun_b, Nat.reduceAdd]) rfl (by simp -dsimp (decide := true) (disch := first | omega | simp (decide := true) only [qdcpb21]) only [qdcpb23, Nat.reduceAdd]) (by simp -dsimp (decide := true) (disch := first | omega | simp (decide := true) only [qdcpb21]) only [qdcpb24]) ?_
      refine SemOps.go (k := 1000) ?_
      simp -dsimp (decide := true) (disch := first | omega | simp (decide := true) only [qdcpb21]) only [qdcpb22, ↓brun_b, Nat.reduceAdd, Nat.reduceBEq]
      refine SemOps.callw [1] cal.f164 (hc2) rfl rfl rfl (by simp -dsimp (decide := true) (disch := first | omega | simp (decide := true) only [qdcpb21]) only [qdcpb23, ↓brun_b, Nat.reduceAdd]) rfl (by simp -dsimp (decide := true) (disch := first | omega | simp (decide := true) only [qdcpb21]) only [qdcpb23, Nat.reduceAdd]) (by simp -dsimp (decide := true) (disch := first | omega | simp (decide := true) only [qdcpb21]) only [qdcpb24]) ?_
      refine SemOps.go (k := 1000) ?_
      simp -dsimp (decide := true) (disch := first | omega | simp (decide := true) only [qdcpb21]) only [qdcpb22, ↓brun_b, Nat.reduceAdd, Nat.reduceBEq, hwk]
      repeat (refine And.intro (by omega) ?_)
      refine ⟨⟨i + 1, by omega, by rw [hGb]; exact hp2, by rw [hGb, hm4, ← hir]; cases rt <;> rfl, by rw [hGb, hm5, ← his]; cases st <;> rfl⟩, [0, 1, 2], ?_, by show l.length - (i + 1) < l.length - i; omega⟩
      (refine Wk.ofC ?_; simp -dsimp (decide := true) (disch := first | omega | simp (decide := true) only [qdcpb21]) only [qdcpb23, ↓brun_b, Nat.reduceAdd, Nat.reduceBEq, hGb])
      all_goals (intro e he; rw [FC.ent]; (repeat' apply And.intro) <;> first | exact Ent.self (flat_v _) | exact Ent.self (bsl_flat _) | exact entE _ _ | exact entE2 _ _)
    · replace hch : strAt ⟨l.toArray⟩ i = 116 := hch
      have hS0 : qstep b ⟨F, rt, st, p, e⟩ 116 = ⟨{ F with ti := (qany b p e).1, tn := (qany b (qany b p e).2.1 (qany b p e).2.2).1 }, rt, st, (qany b (qany b p e).2.1 (qany b p e).2.2).2.1, (qany b (qany b p e).2.1 (qany b p e).2.2).2.2⟩ := rfl
      have hc1 := qany_takes b p e hb hip
      rcases hr1 : qany b p e with ⟨x1, p1, e1⟩
      have hr1' := hr1
      unfold qany at hr1'
      rw [hr1'] at hc1
      simp only at hc1
      have hp1 := qnum_at hb hip hr1'
      have hc2 := qany_takes b p1 e1 hb hp1
      rcases hr2 : qany b p1 e1 with ⟨x2, p2, e2⟩
      have hr2' := hr2
      unfold qany at hr2'
      rw [hr2'] at hc2
      simp only at hc2
      have hp2 := qnum_at hb hp1 hr2'
      simp only [hr1, hr2] at hS0
      rw [hS0] at hGb
      simp -dsimp (decide := true) (disch := first | omega | simp (decide := true) only [qdcpb21]) only [qdcpb22, ↓brun_b, Nat.reduceAdd, Nat.reduceBEq, Qs.fc, hch, bsz]
      repeat (refine And.intro (by omega) ?_)
      refine SemOps.callw [1] cal.f164 (hc1) rfl rfl rfl (by simp -dsimp (decide := true) (disch := first | omega | simp (decide := true) only [qdcpb21]) only [qdcpb23, ↓brun_b, Nat.reduceAdd]) rfl (by simp -dsimp (decide := true) (disch := first | omega | simp (decide := true) only [qdcpb21]) only [qdcpb23, Nat.reduceAdd]) (by simp -dsimp (decide := true) (disch := first | omega | simp (decide := true) only [qdcpb21]) only [qdcpb24]) ?_
      refine SemOps.go (k := 1000) ?_
      simp -dsimp (decide := true) (disch := first | omega | simp (decide := true) only [qdcpb21]) only [qdcpb22, ↓brun_b, Nat.reduceAdd, Nat.reduceBEq]
      refine SemOps.callw [1] cal.f164 (hc2) rfl rfl rfl (by simp -dsimp (decide := true) (disch := first | omega | simp (decide := true) only [qdcpb21]) only [qdcpb23, ↓brun_b, Nat.reduceAdd]) rfl (by simp -dsimp (decide := true) (disch := first | omega | simp (decide := true) only [qdcpb21]) only [qdcpb23, Nat.reduceAdd]) (by simp -dsimp (decide := true) (disch := first | omega | simp (decide := true) only [qdcpb21]) only [qdcpb24]) ?_
      refine SemOps.go (k := 1000) ?_
      simp -dsimp (decide := true) (disch := first | omega | simp (decide := true) only [qdcpb21]) only [qdcpb22, ↓brun_b, Nat.reduceAdd, Nat.reduceBEq, hwk]
      repeat (refine And.intro (by omega) ?_)
      refine ⟨⟨i + 1, by omega, by rw [hGb]; exact hp2, by rw [hGb, hm4, ← hir]; cases rt <;> rfl, by rw [hGb, hm5, ← his]; cases st <;> rfl⟩, [0, 1, 2], ?_, by show l.length - (i + 1) < l.length - i; omega⟩
      (refine Wk.ofC ?_; simp -dsimp (decide := true) (disch := first | omega | simp (decide := true) only [qdcpb21]) only [qdcpb23, ↓brun_b, Nat.reduceAdd, Nat.reduceBEq, hGb])
      all_goals (intro e he; rw [FC.ent]; (repeat' apply And.intro) <;> first | exact Ent.self (flat_v _) | exact Ent.self (bsl_flat _) | exact entE _ _ | exact entE2 _ _)
    · replace hch : strAt ⟨l.toArray⟩ i = 110 := hch
      have hS0 : qstep b ⟨F, rt, st, p, e⟩ 110 = ⟨{ F with n := (qany b p e).1 }, rt, st, (qany b p e).2.1, (qany b p e).2.2⟩ := rfl
      have hc1 := qany_takes b p e hb hip
      rcases hr1 : qany b p e with ⟨x1, p1, e1⟩
      have hr1' := hr1
      unfold qany at hr1'
      rw [hr1'] at hc1
      simp only at hc1
      have hp1 := qnum_at hb hip hr1'
      simp only [hr1] at hS0
      rw [hS0] at hGb
      simp -dsimp (decide := true) (disch := first | omega | simp (decide := true) only [qdcpb21]) only [qdcpb22, ↓brun_b, Nat.reduceAdd, Nat.reduceBEq, Qs.fc, hch, bsz]
      repeat (refine And.intro (by omega) ?_)
      refine SemOps.callw [1] cal.f164 (hc1) rfl rfl rfl (by simp -dsimp (decide := true) (disch := first | omega | simp (decide := true) only [qdcpb21]) only [qdcpb23, ↓brun_b, Nat.reduceAdd]) rfl (by simp -dsimp (decide := true) (disch := first | omega | simp (decide := true) only [qdcpb21]) only [qdcpb23, Nat.reduceAdd]) (by simp -dsimp (decide := true) (disch := first | omega | simp (decide := true) only [qdcpb21]) only [qdcpb24]) ?_
      refine SemOps.go (k := 1000) ?_
      simp -dsimp (decide := true) (disch := first | omega | simp (decide := true) only [qdcpb21]) only [qdcpb22, ↓brun_b, Nat.reduceAdd, Nat.reduceBEq, hwk]
      repeat (refine And.intro (by omega) ?_)
      refine ⟨⟨i + 1, by omega, by rw [hGb]; exact hp1, by rw [hGb, hm4, ← hir]; cases rt <;> rfl, by rw [hGb, hm5, ← his]; cases st <;> rfl⟩, [0, 1, 2], ?_, by show l.length - (i + 1) < l.length - i; omega⟩
      (refine Wk.ofC ?_; simp -dsimp (decide := true) (disch := first | omega | simp (decide := true) only [qdcpb21]) only [qdcpb23, ↓brun_b, Nat.reduceAdd, Nat.reduceBEq, hGb])
      all_goals (intro e he; rw [FC.ent]; (repeat' apply And.intro) <;> first | exact Ent.self (flat_v _) | exact Ent.self (bsl_flat _) | exact entE _ _ | exact entE2 _ _)
    · replace hch : strAt ⟨l.toArray⟩ i = 112 := hch
      have hS0 : qstep b ⟨F, rt, st, p, e⟩ 112 = ⟨{ F with who := (qid b p e).1, pn := (qany b (qid b p e).2.1 (qid b p e).2.2).1 }, rt, st, (qany b (qid b p e).2.1 (qid b p e).2.2).2.1, (qany b (qid b p e).2.1 (qid b p e).2.2).2.2⟩ := rfl
      have hc1 := qid_takes b p e hb hip
      rcases hr1 : qid b p e with ⟨x1, p1, e1⟩
      rw [hr1] at hc1
      simp only at hc1
      have hp1 := qid_at hb hip hr1
      have hc2 := qany_takes b p1 e1 hb hp1
      rcases hr2 : qany b p1 e1 with ⟨x2, p2, e2⟩
      have hr2' := hr2
      unfold qany at hr2'
      rw [hr2'] at hc2
      simp only at hc2
      have hp2 := qnum_at hb hp1 hr2'
      simp only [hr1, hr2] at hS0
      rw [hS0] at hGb
      simp -dsimp (decide := true) (disch := first | omega | simp (decide := true) only [qdcpb21]) only [qdcpb22, ↓brun_b, Nat.reduceAdd, Nat.reduceBEq, Qs.fc, hch, bsz]
      repeat (refine And.intro (by omega) ?_)
      refine SemOps.callw [1] cal.f165 (hc1) rfl rfl rfl (by simp -dsimp (decide := true) (disch := first | omega | simp (decide := true) only [qdcpb21]) only [qdcpb23, ↓brun_b, Nat.reduceAdd]) rfl (by simp -dsimp (decide := true) (disch := first | omega | simp (decide := true) only [qdcpb21]) only [qdcpb23, Nat.reduceAdd]) (by simp -dsimp (decide := true) (disch := first | omega | simp (decide := true) only [qdcpb21]) only [qdcpb24]) ?_
      refine SemOps.go (k := 1000) ?_
      simp -dsimp (decide := true) (disch := first | omega | simp (decide := true) only [qdcpb21]) only [qdcpb22, ↓brun_b, Nat.reduceAdd, Nat.reduceBEq]
      refine SemOps.callw [1] cal.f164 (hc2) rfl rfl rfl (by simp -dsimp (decide := true) (disch := first | omega | simp (decide := true) only [qdcpb21]) only [qdcpb23, ↓brun_b, Nat.reduceAdd]) rfl (by simp -dsimp (decide := true) (disch := first | omega | simp (decide := true) only [qdcpb21]) only [qdcpb23, Nat.reduceAdd]) (by simp -dsimp (decide := true) (disch := first | omega | simp (decide := true) only [qdcpb21]) only [qdcpb24]) ?_
      refine SemOps.go (k := 1000) ?_
      simp -dsimp (decide := true) (disch := first | omega | simp (decide := true) only [qdcpb21]) only [qdcpb22, ↓brun_b, Nat.reduceAdd, Nat.reduceBEq, hwk]
      repeat (refine And.intro (by omega) ?_)
      refine ⟨⟨i + 1, by omega, by rw [hGb]; exact hp2, by rw [hGb, hm4, ← hir]; cases rt <;> rfl, by rw [hGb, hm5, ← his]; cases st <;> rfl⟩, [0, 1, 2], ?_, by show l.length - (i + 1) < l.length - i; omega⟩
      (refine Wk.ofC ?_; simp -dsimp (decide := true) (disch := first | omega | simp (decide := true) only [qdcpb21]) only [qdcpb23, ↓brun_b, Nat.reduceAdd, Nat.reduceBEq, hGb])
      all_goals (intro e he; rw [FC.ent]; (repeat' apply And.intro) <;> first | exact Ent.self (flat_v _) | exact Ent.self (bsl_flat _) | exact entE _ _ | exact entE2 _ _)
    · replace hch : strAt ⟨l.toArray⟩ i = 97 := hch
      have hS0 : qstep b ⟨F, rt, st, p, e⟩ 97 = ⟨{ F with a := (qid b p e).1 }, rt, st, (qid b p e).2.1, (qid b p e).2.2⟩ := rfl
      have hc1 := qid_takes b p e hb hip
      rcases hr1 : qid b p e with ⟨x1, p1, e1⟩
      rw [hr1] at hc1
      simp only at hc1
      have hp1 := qid_at hb hip hr1
      simp only [hr1] at hS0
      rw [hS0] at hGb
      simp -dsimp (decide := true) (disch := first | omega | simp (decide := true) only [qdcpb21]) only [qdcpb22, ↓brun_b, Nat.reduceAdd, Nat.reduceBEq, Qs.fc, hch, bsz]
      repeat (refine And.intro (by omega) ?_)
      refine SemOps.callw [1] cal.f165 (hc1) rfl rfl rfl (by simp -dsimp (decide := true) (disch := first | omega | simp (decide := true) only [qdcpb21]) only [qdcpb23, ↓brun_b, Nat.reduceAdd]) rfl (by simp -dsimp (decide := true) (disch := first | omega | simp (decide := true) only [qdcpb21]) only [qdcpb23, Nat.reduceAdd]) (by simp -dsimp (decide := true) (disch := first | omega | simp (decide := true) only [qdcpb21]) only [qdcpb24]) ?_
      refine SemOps.go (k := 1000) ?_
      simp -dsimp (decide := true) (disch := first | omega | simp (decide := true) only [qdcpb21]) only [qdcpb22, ↓brun_b, Nat.reduceAdd, Nat.reduceBEq, hwk]
      repeat (refine And.intro (by omega) ?_)
      refine ⟨⟨i + 1, by omega, by rw [hGb]; exact hp1, by rw [hGb, hm4, ← hir]; cases rt <;> rfl, by rw [hGb, hm5, ← his]; cases st <;> rfl⟩, [0, 1, 2], ?_, by show l.length - (i + 1) < l.length - i; omega⟩
      (refine Wk.ofC ?_; simp -dsimp (decide := true) (disch := first | omega | simp (decide := true) only [qdcpb21]) only [qdcpb23, ↓brun_b, Nat.reduceAdd, Nat.reduceBEq, hGb])
      all_goals (intro e he; rw [FC.ent]; (repeat' apply And.intro) <;> first | exact Ent.self (flat_v _) | exact Ent.self (bsl_flat _) | exact entE _ _ | exact entE2 _ _)
    · replace hch : strAt ⟨l.toArray⟩ i = 98 := hch
      have hS0 : qstep b ⟨F, rt, st, p, e⟩ 98 = ⟨{ F with b := (qid b p e).1 }, rt, st, (qid b p e).2.1, (qid b p e).2.2⟩ := rfl
      have hc1 := qid_takes b p e hb hip
      rcases hr1 : qid b p e with ⟨x1, p1, e1⟩
      rw [hr1] at hc1
      simp only at hc1
      have hp1 := qid_at hb hip hr1
      simp only [hr1] at hS0
      rw [hS0] at hGb
      simp -dsimp (decide := true) (disch := first | omega | simp (decide := true) only [qdcpb21]) only [qdcpb22, ↓brun_b, Nat.reduceAdd, Nat.reduceBEq, Qs.fc, hch, bsz]
      repeat (refine And.intro (by omega) ?_)
      refine SemOps.callw [1] cal.f165 (hc1) rfl rfl rfl (by simp -dsimp (decide := true) (disch := first | omega | simp (decide := true) only [qdcpb21]) only [qdcpb23, ↓brun_b, Nat.reduceAdd]) rfl (by simp -dsimp (decide := true) (disch := first | omega | simp (decide := true) only [qdcpb21]) only [qdcpb23, Nat.reduceAdd]) (by simp -dsimp (decide := true) (disch := first | omega | simp (decide := true) only [qdcpb21]) only [qdcpb24]) ?_
      refine SemOps.go (k := 1000) ?_
      simp -dsimp (decide := true) (disch := first | omega | simp (decide := true) only [qdcpb21]) only [qdcpb22, ↓brun_b, Nat.reduceAdd, Nat.reduceBEq, hwk]
      repeat (refine And.intro (by omega) ?_)
      refine ⟨⟨i + 1, by omega, by rw [hGb]; exact hp1, by rw [hGb, hm4, ← hir]; cases rt <;> rfl, by rw [hGb, hm5, ← his]; cases st <;> rfl⟩, [0, 1, 2], ?_, by show l.length - (i + 1) < l.length - i; omega⟩
      (refine Wk.ofC ?_; simp -dsimp (decide := true) (disch := first | omega | simp (decide := true) only [qdcpb21]) only [qdcpb23, ↓brun_b, Nat.reduceAdd, Nat.reduceBEq, hGb])
      all_goals (intro e he; rw [FC.ent]; (repeat' apply And.intro) <;> first | exact Ent.self (flat_v _) | exact Ent.self (bsl_flat _) | exact entE _ _ | exact entE2 _ _)
    · replace hch : strAt ⟨l.toArray⟩ i = 100 := hch
      have hS0 : qstep b ⟨F, rt, st, p, e⟩ 100 = ⟨{ F with toA := decide ((((qnum 0 1 2 b p e).1 : Nat) : Int) = 1) }, rt, st, (qnum 0 1 2 b p e).2.1, (qnum 0 1 2 b p e).2.2⟩ := rfl
      have hc1 := (qnum_takes 0 1 2 (by decide) (by decide)) b p e hb hip
      rcases hr1 : qnum 0 1 2 b p e with ⟨x1, p1, e1⟩
      rw [hr1] at hc1
      simp only at hc1
      have hp1 := qnum_at hb hip hr1
      simp only [hr1] at hS0
      rw [hS0] at hGb
      simp -dsimp (decide := true) (disch := first | omega | simp (decide := true) only [qdcpb21]) only [qdcpb22, ↓brun_b, Nat.reduceAdd, Nat.reduceBEq, Qs.fc, hch, bsz]
      repeat (refine And.intro (by omega) ?_)
      refine SemOps.callw [1] cal.f163 (hc1) rfl rfl rfl (by simp -dsimp (decide := true) (disch := first | omega | simp (decide := true) only [qdcpb21]) only [qdcpb23, ↓brun_b, Nat.reduceAdd]) rfl (by simp -dsimp (decide := true) (disch := first | omega | simp (decide := true) only [qdcpb21]) only [qdcpb23, Nat.reduceAdd]) (by simp -dsimp (decide := true) (disch := first | omega | simp (decide := true) only [qdcpb21]) only [qdcpb24]) ?_
      refine SemOps.go (k := 1000) ?_
      simp -dsimp (decide := true) (disch := first | omega | simp (decide := true) only [qdcpb21]) only [qdcpb22, ↓brun_b, Nat.reduceAdd, Nat.reduceBEq, hwk]
      repeat (refine And.intro (by omega) ?_)
      refine ⟨⟨i + 1, by omega, by rw [hGb]; exact hp1, by rw [hGb, hm4, ← hir]; cases rt <;> rfl, by rw [hGb, hm5, ← his]; cases st <;> rfl⟩, [0, 1, 2], ?_, by show l.length - (i + 1) < l.length - i; omega⟩
      (refine Wk.ofC ?_; simp -dsimp (decide := true) (disch := first | omega | simp (decide := true) only [qdcpb21]) only [qdcpb23, ↓brun_b, Nat.reduceAdd, Nat.reduceBEq, hGb])
      all_goals (intro e he; rw [FC.ent]; (repeat' apply And.intro) <;> first | exact Ent.self (flat_v _) | exact Ent.self (bsl_flat _) | exact entE _ _ | exact entE2 _ _)
    · replace hch : strAt ⟨l.toArray⟩ i = 114 := hch
      obtain rfl : rt = false := by rw [hir]; exact decide_eq_false hnt
      have hc1 := qnum_takes 0 64 4 (by decide) (by decide) b p e hb hip
      have hS0 : qstep b ⟨F, false, st, p, e⟩ 114 = ⟨{ F with tr := (qlegs b (qnum 0 64 4 b p e).1 [] (qnum 0 64 4 b p e).2.1 (qnum 0 64 4 b p e).2.2).1 }, true, st, (qlegs b (qnum 0 64 4 b p e).1 [] (qnum 0 64 4 b p e).2.1 (qnum 0 64 4 b p e).2.2).2.1, (qlegs b (qnum 0 64 4 b p e).1 [] (qnum 0 64 4 b p e).2.1 (qnum 0 64 4 b p e).2.2).2.2⟩ := rfl
      rcases hr1 : qnum 0 64 4 b p e with ⟨n, p1, e1⟩
      rw [hr1] at hc1
      simp only at hc1
      have hp1 := qnum_at hb hip hr1
      have hn := qnum_le hr1
      simp only [hr1] at hS0
      rw [hS0] at hGb
      simp -dsimp (decide := true) (disch := first | omega | simp (decide := true) only [qdcpb21]) only [qdcpb22, ↓brun_b, Nat.reduceAdd, Nat.reduceBEq, Qs.fc, hch, bsz, lcell]
      repeat (refine And.intro (by omega) ?_)
      refine SemOps.callw [1] cal.f163 (hc1) rfl rfl rfl (by simp -dsimp (decide := true) (disch := first | omega | simp (decide := true) only [qdcpb21]) only [qdcpb23, ↓brun_b, Nat.reduceAdd]) rfl (by simp -dsimp (decide := true) (disch := first | omega | simp (decide := true) only [qdcpb21]) only [qdcpb23, Nat.reduceAdd]) (by simp -dsimp (decide := true) (disch := first | omega | simp (decide := true) only [qdcpb21]) only [qdcpb24]) ?_
      refine SemOps.go (k := 1000) ?_
      simp -dsimp (decide := true) (disch := first | omega | simp (decide := true) only [qdcpb21]) only [qdcpb22, ↓brun_b, Nat.reduceAdd]
      repeat (refine And.intro (by omega) ?_)
      refine Lent.sem (Lent.ghostB 2 56 1 3 rfl (FC.get_tr _)) ?_
      refine Sem.loop (ι := {p : Nat × List Int × Int × Int // p.1 ≤ n ∧ p.2.1.length = p.1 ∧ I64 p.2.2.1 ∧ qlegs b n [] p1 e1 = qlegs b (n - p.1) p.2.1 p.2.2.1 p.2.2.2}) (fun p => ⟨193, 0, [(0, bsl b), (2, .ptr 0 0 0), (3, .v (.int .i64 0)), (4, .ptr 1 0 0), (5, .ptr 2 0 0), (6, .v (.string ⟨l.toArray⟩)), (7, .v (.int .i64 (i : Int))), (8, .v (.int .i64 (n : Int))), (9, .v (.int .i64 (p.1.1 : Int)))], [some (.row ⟨95, 1, true, 151, fun _ => zF.c⟩), some (.row ⟨3, 1, true, 262, fun _ => [bsl b, .v (.int .i64 p.1.2.2.1), .v (.int .i64 p.1.2.2.2)]⟩), some (.row ⟨95, 1, true, 151, fun _ => FC.c ⟨.v (.int .i64 F.kind), F.who, .v (.int .i64 F.pn), .v (.bool F.toA), F.a, F.b, .v (.int .i64 F.n), .v (.int .i64 F.fi), .v (.int .i64 F.fn), .v (.int .i64 F.ti), .v (.int .i64 F.tn), .slc 3 0 p.1.2.1.length, lcell 16 st (idrs F.is), F.key, .v (.int .i64 F.vn), F.vwho, bsl F.val, .v (.int .i64 F.op), .v (.int .i64 F.ttl), bsl F.tx⟩⟩), some (.row ⟨1, p.1.2.1.length, true, 3, lrow p.1.2.1⟩)]⟩) (fun p => n - p.1.1) ⟨(0, [], p1, e1), Nat.zero_le _, rfl, hp1, rfl⟩ [0, 1, 2, 3] ?_ ?_
      · (refine Wk.ofC ?_; simp -dsimp (decide := true) (disch := first | omega | simp (decide := true) only [qdcpb21]) only [qdcpb25, ↓brun_b, Nat.reduceAdd, Nat.reduceBEq])
        all_goals first | exact fun e he => entE _ _ | exact fun e he => entE2 _ _ | skip
      · rintro ⟨⟨k, m, q4, e4⟩, hk, hl2, hq4, hat⟩
        simp only at hk hl2 hq4 hat
        have hd := (qnum_takes 0 5 2 (by decide) (by decide)) b q4 e4 hb hq4
        refine Sem.go (k := 1000) ?_
        simp -dsimp (decide := true) (disch := first | omega | simp (decide := true) only [qdcpb21]) only [qdcpb22, ↓brun_b, Nat.reduceAdd, Nat.reduceBEq]
        refine SCond.split (fun h2 => ?_) (fun h2 => ?_)
        · simp only [decide_eq_true_eq] at h2
          have hk' : k < n := by omega
          have hwk2 : IntKind.i64.wrap ((k : Int) + 1) = ((k + 1 : Nat) : Int) := by rw [wrap_i64 _ (by omega)]; rfl
          obtain ⟨j, hj⟩ : ∃ j, n - k = j + 1 := ⟨n - k - 1, by omega⟩
          rw [hj] at hat
          simp only [qlegs] at hat
          rcases hr2 : qnum 0 5 2 b q4 e4 with ⟨x, q5, e5⟩
          rw [hr2] at hd hat
          simp only at hd hat
          have hq5 := qnum_at hb hq4 hr2
          rw [show j = n - (k + 1) by omega] at hat
          simp -dsimp (decide := true) (disch := first | omega | simp (decide := true) only [qdcpb21]) only [qdcpb22]
          refine Sem.draw' (by kernel_rfl) (.one 0 (.one 2 (.alt 1 (.alt 3 (.alt 4 (.alt 5 (.one 6 (.alt 7 .done .non)) .non) .non) .non) (.alt 3 (.alt 1 (.alt 4 (.alt 5 (.one 6 (.alt 7 .done .non)) .non) .non) (.alt 4 (.alt 1 (.alt 5 (.one 6 (.alt 7 .done .non)) .non) .non) .non)) .non)))) [1, 2, 3] (by kernel_rfl) (fun G ff hG hf => ?_)
          simp (decide := true) only [qdcpb4, Nat.reduceAdd] at hG ⊢
          simp -dsimp (decide := true) (disch := first | omega | simp (decide := true) only [qdcpb21]) only [qdcpb22, ↓brun_b, Nat.reduceAdd, Nat.reduceBEq]
          (repeat' refine And.intro ?_ ?_)
          all_goals
            refine OpSem.callw [1] cal.f163 (hd) rfl rfl (by simp -dsimp (decide := true) (disch := first | omega | simp (decide := true) only [qdcpb21]) only [qdcpb23, ↓brun_b, Nat.reduceAdd, Nat.reduceBEq]) rfl (by simp -dsimp (decide := true) (disch := first | omega | simp (decide := true) only [qdcpb21]) only [qdcpb23, Nat.reduceAdd]) (by simp -dsimp (decide := true) (disch := first | omega | simp (decide := true) only [qdcpb21]) only [qdcpb24]) ?_
            simp -dsimp (decide := true) (disch := first | omega | simp (decide := true) only [qdcpb21]) only [qdcpb26, ↓brun_b, Nat.reduceAdd, Nat.reduceBEq, sapp1_sl elN3, Nat.le_refl]
            (repeat' refine And.intro ?_ ?_)
            all_goals first | omega | skip
            all_goals
              refine hf _ (Sem.go (k := 1000) ?_)
              simp (decide := true) only [back_mk, backL_in, backL_row, backL_nil, Nat.zero_add, Nat.reduceAdd]
              simp -dsimp (decide := true) (disch := first | omega | simp (decide := true) only [qdcpb21]) only [qdcpb22, ↓brun_b, Nat.reduceAdd, Nat.reduceBEq, hwk2]
              refine ⟨⟨(k + 1, m ++ [(x : Int)], q5, e5), hk', by simp [hl2], hq5, hat⟩, [0, 1, 2, 5], ?_, by show n - (k + 1) < n - k; omega⟩
              have e1 : (m ++ [(x : Int)]).length = m.length + 1 := by simp
              (refine Wk.ofC ?_; simp -dsimp (decide := true) (disch := first | omega | simp (decide := true) only [qdcpb21]) only [qdcpb27, ↓brun_b, Nat.reduceAdd, Nat.reduceBEq, e1])
              all_goals first | exact fun e he => app_lrow m x e he | exact fun e he => entE _ _ | exact fun e he => entE2 _ _ | skip
        · simp only [decide_eq_false_iff_not] at h2
          obtain rfl : k = n := by omega
          rw [Nat.sub_self] at hat
          simp only [qlegs] at hat
          rw [hat] at hGb
          simp only at hGb
          simp -dsimp (decide := true) (disch := first | omega | simp (decide := true) only [qdcpb21]) only [qdcpb22, ↓brun_b, reduceIte, Nat.reduceAdd, Nat.reduceBEq, hwk]
          repeat (refine And.intro (by omega) ?_)
          refine ⟨⟨i + 1, by omega, by rw [hGb]; exact hq4, by rw [hGb, hm4, ← hir]; rfl, by rw [hGb, hm5, ← his]; cases st <;> rfl⟩, [0, 1, 2], ?_, by show l.length - (i + 1) < l.length - i; omega⟩
          (refine Wk.ofC ?_; simp -dsimp (decide := true) (disch := first | omega | simp (decide := true) only [qdcpb21]) only [qdcpb23, ↓brun_b, Nat.reduceAdd, Nat.reduceBEq, hGb, lcell])
          all_goals (intro e he; rw [FC.ent]; (repeat' apply And.intro) <;> first | exact Ent.self (flat_v _) | exact Ent.self (bsl_flat _) | exact entE _ _ | exact entE2 _ _ | exact Ent.self (lsl_flat _) | exact Ent.self (isl_flat _) | exact Ent_row rfl rfl (lrows_length m).symm (by omega) fun i r hr => lrow_row m i r hr)
    · replace hch : strAt ⟨l.toArray⟩ i = 115 := hch
      obtain rfl : st = false := by rw [his]; exact decide_eq_false hnt
      have hc1 := qnum_takes 0 16 4 (by decide) (by decide) b p e hb hip
      have hS0 : qstep b ⟨F, rt, false, p, e⟩ 115 = ⟨{ F with is := (qids b (qnum 0 16 4 b p e).1 [] (qnum 0 16 4 b p e).2.1 (qnum 0 16 4 b p e).2.2).1 }, rt, true, (qids b (qnum 0 16 4 b p e).1 [] (qnum 0 16 4 b p e).2.1 (qnum 0 16 4 b p e).2.2).2.1, (qids b (qnum 0 16 4 b p e).1 [] (qnum 0 16 4 b p e).2.1 (qnum 0 16 4 b p e).2.2).2.2⟩ := rfl
      rcases hr1 : qnum 0 16 4 b p e with ⟨n, p1, e1⟩
      rw [hr1] at hc1
      simp only at hc1
      have hp1 := qnum_at hb hip hr1
      have hn := qnum_le hr1
      simp only [hr1] at hS0
      rw [hS0] at hGb
      simp -dsimp (decide := true) (disch := first | omega | simp (decide := true) only [qdcpb21]) only [qdcpb22, ↓brun_b, Nat.reduceAdd, Nat.reduceBEq, Qs.fc, hch, bsz, lcell]
      repeat (refine And.intro (by omega) ?_)
      refine SemOps.callw [1] cal.f163 (hc1) rfl rfl rfl (by simp -dsimp (decide := true) (disch := first | omega | simp (decide := true) only [qdcpb21]) only [qdcpb23, ↓brun_b, Nat.reduceAdd]) rfl (by simp -dsimp (decide := true) (disch := first | omega | simp (decide := true) only [qdcpb21]) only [qdcpb23, Nat.reduceAdd]) (by simp -dsimp (decide := true) (disch := first | omega | simp (decide := true) only [qdcpb21]) only [qdcpb24]) ?_
      refine SemOps.go (k := 1000) ?_
      simp -dsimp (decide := true) (disch := first | omega | simp (decide := true) only [qdcpb21]) only [qdcpb22, ↓brun_b, Nat.reduceAdd]
      repeat (refine And.intro (by omega) ?_)
      refine Lent.sem (Lent.ghostB 2 57 16 23 rfl (FC.get_is _)) ?_
      refine Sem.loop (ι := {p : Nat × List I16 × Int × Int // p.1 ≤ n ∧ p.2.1.length = p.1 ∧ I64 p.2.2.1 ∧ qids b n [] p1 e1 = qids b (n - p.1) p.2.1 p.2.2.1 p.2.2.2}) (fun p => ⟨193, 0, [(0, bsl b), (2, .ptr 0 0 0), (3, .v (.int .i64 0)), (4, .ptr 1 0 0), (5, .ptr 2 0 0), (6, .v (.string ⟨l.toArray⟩)), (7, .v (.int .i64 (i : Int))), (10, .v (.int .i64 (n : Int))), (11, .v (.int .i64 (p.1.1 : Int)))], [some (.row ⟨95, 1, true, 151, fun _ => zF.c⟩), some (.row ⟨3, 1, true, 262, fun _ => [bsl b, .v (.int .i64 p.1.2.2.1), .v (.int .i64 p.1.2.2.2)]⟩), some (.row ⟨95, 1, true, 151, fun _ => FC.c ⟨.v (.int .i64 F.kind), F.who, .v (.int .i64 F.pn), .v (.bool F.toA), F.a, F.b, .v (.int .i64 F.n), .v (.int .i64 F.fi), .v (.int .i64 F.fn), .v (.int .i64 F.ti), .v (.int .i64 F.tn), lcell 1 rt (lrows F.tr), .slc 3 0 p.1.2.1.length, F.key, .v (.int .i64 F.vn), F.vwho, bsl F.val, .v (.int .i64 F.op), .v (.int .i64 F.ttl), bsl F.tx⟩⟩), some (.row ⟨16, p.1.2.1.length, true, 23, fun e => (idrs p.1.2.1).getD e []⟩)]⟩) (fun p => n - p.1.1) ⟨(0, [], p1, e1), Nat.zero_le _, rfl, hp1, rfl⟩ [0, 1, 2, 3] ?_ ?_
      · (refine Wk.ofC ?_; simp -dsimp (decide := true) (disch := first | omega | simp (decide := true) only [qdcpb21]) only [qdcpb28, ↓brun_b, Nat.reduceAdd, Nat.reduceBEq])
        all_goals first | exact fun e he => entE _ _ | exact fun e he => entE2 _ _ | skip
      · rintro ⟨⟨k, m, q4, e4⟩, hk, hl2, hq4, hat⟩
        simp only at hk hl2 hq4 hat
        have hd := qid_takes b q4 e4 hb hq4
        refine Sem.go (k := 1000) ?_
        simp -dsimp (decide := true) (disch := first | omega | simp (decide := true) only [qdcpb21]) only [qdcpb22, ↓brun_b, Nat.reduceAdd, Nat.reduceBEq]
        refine SCond.split (fun h2 => ?_) (fun h2 => ?_)
        · simp only [decide_eq_true_eq] at h2
          have hk' : k < n := by omega
          have hwk2 : IntKind.i64.wrap ((k : Int) + 1) = ((k + 1 : Nat) : Int) := by rw [wrap_i64 _ (by omega)]; rfl
          obtain ⟨j, hj⟩ : ∃ j, n - k = j + 1 := ⟨n - k - 1, by omega⟩
          rw [hj] at hat
          simp only [qids] at hat
          rcases hr2 : qid b q4 e4 with ⟨x, q5, e5⟩
          rw [hr2] at hd hat
          simp only at hd hat
          have hq5 := qid_at hb hq4 hr2
          rw [show j = n - (k + 1) by omega] at hat
          simp -dsimp (decide := true) (disch := first | omega | simp (decide := true) only [qdcpb21]) only [qdcpb22]
          refine Sem.draw' (by kernel_rfl) (.one 0 (.one 2 (.alt 1 (.alt 3 (.alt 4 (.alt 5 (.one 6 (.alt 7 .done .non)) .non) .non) .non) (.alt 3 (.alt 1 (.alt 4 (.alt 5 (.one 6 (.alt 7 .done .non)) .non) .non) (.alt 4 (.alt 1 (.alt 5 (.one 6 (.alt 7 .done .non)) .non) .non) .non)) .non)))) [1, 2, 3] (by kernel_rfl) (fun G ff hG hf => ?_)
          simp (decide := true) only [qdcpb4, Nat.reduceAdd] at hG ⊢
          simp -dsimp (decide := true) (disch := first | omega | simp (decide := true) only [qdcpb21]) only [qdcpb22, ↓brun_b, Nat.reduceAdd, Nat.reduceBEq]
          (repeat' refine And.intro ?_ ?_)
          all_goals
            refine OpSem.callw [1] cal.f165 (hd) rfl rfl (by simp -dsimp (decide := true) (disch := first | omega | simp (decide := true) only [qdcpb21]) only [qdcpb23, ↓brun_b, Nat.reduceAdd, Nat.reduceBEq]) rfl (by simp -dsimp (decide := true) (disch := first | omega | simp (decide := true) only [qdcpb21]) only [qdcpb23, Nat.reduceAdd]) (by simp -dsimp (decide := true) (disch := first | omega | simp (decide := true) only [qdcpb21]) only [qdcpb24]) ?_
            simp -dsimp (decide := true) (disch := first | omega | simp (decide := true) only [qdcpb21]) only [qdcpb29, ↓brun_b, Nat.reduceAdd, Nat.reduceBEq, sapp1_sl elN23, Nat.le_refl]
            (repeat' refine And.intro ?_ ?_)
            all_goals first | omega | skip
            all_goals
              refine hf _ (Sem.go (k := 1000) ?_)
              simp (decide := true) only [back_mk, backL_in, backL_row, backL_nil, Nat.zero_add, Nat.reduceAdd]
              simp -dsimp (decide := true) (disch := first | omega | simp (decide := true) only [qdcpb21]) only [qdcpb22, ↓brun_b, Nat.reduceAdd, Nat.reduceBEq, hwk2]
              refine ⟨⟨(k + 1, m ++ [x], q5, e5), hk', by simp [hl2], hq5, hat⟩, [0, 1, 2, 5], ?_, by show n - (k + 1) < n - k; omega⟩
              have e1 : (m ++ [x]).length = m.length + 1 := by simp
              (refine Wk.ofC ?_; simp -dsimp (decide := true) (disch := first | omega | simp (decide := true) only [qdcpb21]) only [qdcpb27, ↓brun_b, Nat.reduceAdd, Nat.reduceBEq, e1])
              all_goals first | exact fun e he => app_idrs m x e he | exact fun e he => entE _ _ | exact fun e he => entE2 _ _ | skip
        · simp only [decide_eq_false_iff_not] at h2
          obtain rfl : k = n := by omega
          rw [Nat.sub_self] at hat
          simp only [qids] at hat
          rw [hat] at hGb
          simp only at hGb
          simp -dsimp (decide := true) (disch := first | omega | simp (decide := true) only [qdcpb21]) only [qdcpb22, ↓brun_b, reduceIte, Nat.reduceAdd, Nat.reduceBEq, hwk]
          repeat (refine And.intro (by omega) ?_)
          refine ⟨⟨i + 1, by omega, by rw [hGb]; exact hq4, by rw [hGb, hm4, ← hir]; cases rt <;> rfl, by rw [hGb, hm5, ← his]; rfl⟩, [0, 1, 2], ?_, by show l.length - (i + 1) < l.length - i; omega⟩
          (refine Wk.ofC ?_; simp -dsimp (decide := true) (disch := first | omega | simp (decide := true) only [qdcpb21]) only [qdcpb23, ↓brun_b, Nat.reduceAdd, Nat.reduceBEq, hGb, lcell])
          all_goals (intro e he; rw [FC.ent]; (repeat' apply And.intro) <;> first | exact Ent.self (flat_v _) | exact Ent.self (bsl_flat _) | exact entE _ _ | exact entE2 _ _ | exact Ent.self (lsl_flat _) | exact Ent.self (isl_flat _) | exact Ent_row rfl rfl (idrs_len m).symm (by omega) fun i r hr => ids_row m i r hr)
    · replace hch : strAt ⟨l.toArray⟩ i = 105 := hch
      have hS0 : qstep b ⟨F, rt, st, p, e⟩ 105 = ⟨{ F with key := (qid b p e).1, vn := (qany b (qid b p e).2.1 (qid b p e).2.2).1, vwho := (qid b (qany b (qid b p e).2.1 (qid b p e).2.2).2.1 (qany b (qid b p e).2.1 (qid b p e).2.2).2.2).1, val := (qtext 64 b (qid b (qany b (qid b p e).2.1 (qid b p e).2.2).2.1 (qany b (qid b p e).2.1 (qid b p e).2.2).2.2).2.1 (qid b (qany b (qid b p e).2.1 (qid b p e).2.2).2.1 (qany b (qid b p e).2.1 (qid b p e).2.2).2.2).2.2).1 }, rt, st, (qtext 64 b (qid b (qany b (qid b p e).2.1 (qid b p e).2.2).2.1 (qany b (qid b p e).2.1 (qid b p e).2.2).2.2).2.1 (qid b (qany b (qid b p e).2.1 (qid b p e).2.2).2.1 (qany b (qid b p e).2.1 (qid b p e).2.2).2.2).2.2).2.1, (qtext 64 b (qid b (qany b (qid b p e).2.1 (qid b p e).2.2).2.1 (qany b (qid b p e).2.1 (qid b p e).2.2).2.2).2.1 (qid b (qany b (qid b p e).2.1 (qid b p e).2.2).2.1 (qany b (qid b p e).2.1 (qid b p e).2.2).2.2).2.2).2.2⟩ := rfl
      have hc1 := qid_takes b p e hb hip
      rcases hr1 : qid b p e with ⟨x1, p1, e1⟩
      rw [hr1] at hc1
      simp only at hc1
      have hp1 := qid_at hb hip hr1
      have hc2 := qany_takes b p1 e1 hb hp1
      rcases hr2 : qany b p1 e1 with ⟨x2, p2, e2⟩
      have hr2' := hr2
      unfold qany at hr2'
      rw [hr2'] at hc2
      simp only at hc2
      have hp2 := qnum_at hb hp1 hr2'
      have hc3 := qid_takes b p2 e2 hb hp2
      rcases hr3 : qid b p2 e2 with ⟨x3, p3, e3⟩
      rw [hr3] at hc3
      simp only at hc3
      have hp3 := qid_at hb hp2 hr3
      have hc4 := (qtext_takes 64 (by decide)) b p3 e3 hb hp3
      rcases hr4 : qtext 64 b p3 e3 with ⟨x4, p4, e4⟩
      rw [hr4] at hc4
      simp only at hc4
      have hp4 := qtext_at hb hp3 hr4
      simp only [hr1, hr2, hr3, hr4] at hS0
      rw [hS0] at hGb
      simp -dsimp (decide := true) (disch := first | omega | simp (decide := true) only [qdcpb21]) only [qdcpb22, ↓brun_b, Nat.reduceAdd, Nat.reduceBEq, Qs.fc, hch, bsz]
      repeat (refine And.intro (by omega) ?_)
      refine SemOps.callw [1] cal.f165 (hc1) rfl rfl rfl (by simp -dsimp (decide := true) (disch := first | omega | simp (decide := true) only [qdcpb21]) only [qdcpb23, ↓brun_b, Nat.reduceAdd]) rfl (by simp -dsimp (decide := true) (disch := first | omega | simp (decide := true) only [qdcpb21]) only [qdcpb23, Nat.reduceAdd]) (by simp -dsimp (decide := true) (disch := first | omega | simp (decide := true) only [qdcpb21]) only [qdcpb24]) ?_
      refine SemOps.go (k := 1000) ?_
      simp -dsimp (decide := true) (disch := first | omega | simp (decide := true) only [qdcpb21]) only [qdcpb22, ↓brun_b, Nat.reduceAdd, Nat.reduceBEq]
      refine SemOps.callw [1] cal.f164 (hc2) rfl rfl rfl (by simp -dsimp (decide := true) (disch := first | omega | simp (decide := true) only [qdcpb21]) only [qdcpb23, ↓brun_b, Nat.reduceAdd]) rfl (by simp -dsimp (decide := true) (disch := first | omega | simp (decide := true) only [qdcpb21]) only [qdcpb23, Nat.reduceAdd]) (by simp -dsimp (decide := true) (disch := first | omega | simp (decide := true) only [qdcpb21]) only [qdcpb24]) ?_
      refine SemOps.go (k := 1000) ?_
      simp -dsimp (decide := true) (disch := first | omega | simp (decide := true) only [qdcpb21]) only [qdcpb22, ↓brun_b, Nat.reduceAdd, Nat.reduceBEq]
      refine SemOps.callw [1] cal.f165 (hc3) rfl rfl rfl (by simp -dsimp (decide := true) (disch := first | omega | simp (decide := true) only [qdcpb21]) only [qdcpb23, ↓brun_b, Nat.reduceAdd]) rfl (by simp -dsimp (decide := true) (disch := first | omega | simp (decide := true) only [qdcpb21]) only [qdcpb23, Nat.reduceAdd]) (by simp -dsimp (decide := true) (disch := first | omega | simp (decide := true) only [qdcpb21]) only [qdcpb24]) ?_
      refine SemOps.go (k := 1000) ?_
      simp -dsimp (decide := true) (disch := first | omega | simp (decide := true) only [qdcpb21]) only [qdcpb22, ↓brun_b, Nat.reduceAdd, Nat.reduceBEq, hch, bsz]
      repeat (refine And.intro (by omega) ?_)
      refine SemOps.callw [1] cal.f166 (hc4) rfl rfl rfl (by simp -dsimp (decide := true) (disch := first | omega | simp (decide := true) only [qdcpb21]) only [qdcpb23, ↓brun_b, Nat.reduceAdd]) rfl (by simp -dsimp (decide := true) (disch := first | omega | simp (decide := true) only [qdcpb21]) only [qdcpb23, Nat.reduceAdd]) (by simp -dsimp (decide := true) (disch := first | omega | simp (decide := true) only [qdcpb21]) only [qdcpb24]) ?_
      refine SemOps.go (k := 1000) ?_
      simp -dsimp (decide := true) (disch := first | omega | simp (decide := true) only [qdcpb21]) only [qdcpb22, ↓brun_b, Nat.reduceAdd, Nat.reduceBEq, hwk]
      repeat (refine And.intro (by omega) ?_)
      refine ⟨⟨i + 1, by omega, by rw [hGb]; exact hp4, by rw [hGb, hm4, ← hir]; cases rt <;> rfl, by rw [hGb, hm5, ← his]; cases st <;> rfl⟩, [0, 1, 2], ?_, by show l.length - (i + 1) < l.length - i; omega⟩
      (refine Wk.ofC ?_; simp -dsimp (decide := true) (disch := first | omega | simp (decide := true) only [qdcpb21]) only [qdcpb23, ↓brun_b, Nat.reduceAdd, Nat.reduceBEq, hGb])
      all_goals (intro e he; rw [FC.ent]; (repeat' apply And.intro) <;> first | exact Ent.self (flat_v _) | exact Ent.self (bsl_flat _) | exact entE _ _ | exact entE2 _ _)
    · replace hch : strAt ⟨l.toArray⟩ i = 107 := hch
      have hS0 : qstep b ⟨F, rt, st, p, e⟩ 107 = ⟨{ F with key := (qid b p e).1, vn := (qany b (qid b p e).2.1 (qid b p e).2.2).1, vwho := (qid b (qany b (qid b p e).2.1 (qid b p e).2.2).2.1 (qany b (qid b p e).2.1 (qid b p e).2.2).2.2).1 }, rt, st, (qid b (qany b (qid b p e).2.1 (qid b p e).2.2).2.1 (qany b (qid b p e).2.1 (qid b p e).2.2).2.2).2.1, (qid b (qany b (qid b p e).2.1 (qid b p e).2.2).2.1 (qany b (qid b p e).2.1 (qid b p e).2.2).2.2).2.2⟩ := rfl
      have hc1 := qid_takes b p e hb hip
      rcases hr1 : qid b p e with ⟨x1, p1, e1⟩
      rw [hr1] at hc1
      simp only at hc1
      have hp1 := qid_at hb hip hr1
      have hc2 := qany_takes b p1 e1 hb hp1
      rcases hr2 : qany b p1 e1 with ⟨x2, p2, e2⟩
      have hr2' := hr2
      unfold qany at hr2'
      rw [hr2'] at hc2
      simp only at hc2
      have hp2 := qnum_at hb hp1 hr2'
      have hc3 := qid_takes b p2 e2 hb hp2
      rcases hr3 : qid b p2 e2 with ⟨x3, p3, e3⟩
      rw [hr3] at hc3
      simp only at hc3
      have hp3 := qid_at hb hp2 hr3
      simp only [hr1, hr2, hr3] at hS0
      rw [hS0] at hGb
      simp -dsimp (decide := true) (disch := first | omega | simp (decide := true) only [qdcpb21]) only [qdcpb22, ↓brun_b, Nat.reduceAdd, Nat.reduceBEq, Qs.fc, hch, bsz]
      repeat (refine And.intro (by omega) ?_)
      refine SemOps.callw [1] cal.f165 (hc1) rfl rfl rfl (by simp -dsimp (decide := true) (disch := first | omega | simp (decide := true) only [qdcpb21]) only [qdcpb23, ↓brun_b, Nat.reduceAdd]) rfl (by simp -dsimp (decide := true) (disch := first | omega | simp (decide := true) only [qdcpb21]) only [qdcpb23, Nat.reduceAdd]) (by simp -dsimp (decide := true) (disch := first | omega | simp (decide := true) only [qdcpb21]) only [qdcpb24]) ?_
      refine SemOps.go (k := 1000) ?_
      simp -dsimp (decide := true) (disch := first | omega | simp (decide := true) only [qdcpb21]) only [qdcpb22, ↓brun_b, Nat.reduceAdd, Nat.reduceBEq]
      refine SemOps.callw [1] cal.f164 (hc2) rfl rfl rfl (by simp -dsimp (decide := true) (disch := first | omega | simp (decide := true) only [qdcpb21]) only [qdcpb23, ↓brun_b, Nat.reduceAdd]) rfl (by simp -dsimp (decide := true) (disch := first | omega | simp (decide := true) only [qdcpb21]) only [qdcpb23, Nat.reduceAdd]) (by simp -dsimp (decide := true) (disch := first | omega | simp (decide := true) only [qdcpb21]) only [qdcpb24]) ?_
      refine SemOps.go (k := 1000) ?_
      simp -dsimp (decide := true) (disch := first | omega | simp (decide := true) only [qdcpb21]) only [qdcpb22, ↓brun_b, Nat.reduceAdd, Nat.reduceBEq]
      refine SemOps.callw [1] cal.f165 (hc3) rfl rfl rfl (by simp -dsimp (decide := true) (disch := first | omega | simp (decide := true) only [qdcpb21]) only [qdcpb23, ↓brun_b, Nat.reduceAdd]) rfl (by simp -dsimp (decide := true) (disch := first | omega | simp (decide := true) only [qdcpb21]) only [qdcpb23, Nat.reduceAdd]) (by simp -dsimp (decide := true) (disch := first | omega | simp (decide := true) only [qdcpb21]) only [qdcpb24]) ?_
      refine SemOps.go (k := 1000) ?_
      simp -dsimp (decide := true) (disch := first | omega | simp (decide := true) only [qdcpb21]) only [qdcpb22, ↓brun_b, Nat.reduceAdd, Nat.reduceBEq, hch, hwk, bsz]
      repeat (refine And.intro (by omega) ?_)
      refine ⟨⟨i + 1, by omega, by rw [hGb]; exact hp3, by rw [hGb, hm4, ← hir]; cases rt <;> rfl, by rw [hGb, hm5, ← his]; cases st <;> rfl⟩, [0, 1, 2], ?_, by show l.length - (i + 1) < l.length - i; omega⟩
      (refine Wk.ofC ?_; simp -dsimp (decide := true) (disch := first | omega | simp (decide := true) only [qdcpb21]) only [qdcpb23, ↓brun_b, Nat.reduceAdd, Nat.reduceBEq, hGb])
      all_goals (intro e he; rw [FC.ent]; (repeat' apply And.intro) <;> first | exact Ent.self (flat_v _) | exact Ent.self (bsl_flat _) | exact entE _ _ | exact entE2 _ _)
    · replace hch : strAt ⟨l.toArray⟩ i = 108 := hch
      have hS0 : qstep b ⟨F, rt, st, p, e⟩ 108 = ⟨{ F with op := (qnum 0 3 2 b p e).1 }, rt, st, (qnum 0 3 2 b p e).2.1, (qnum 0 3 2 b p e).2.2⟩ := rfl
      have hc1 := (qnum_takes 0 3 2 (by decide) (by decide)) b p e hb hip
      rcases hr1 : qnum 0 3 2 b p e with ⟨x1, p1, e1⟩
      rw [hr1] at hc1
      simp only at hc1
      have hp1 := qnum_at hb hip hr1
      simp only [hr1] at hS0
      rw [hS0] at hGb
      simp -dsimp (decide := true) (disch := first | omega | simp (decide := true) only [qdcpb21]) only [qdcpb22, ↓brun_b, Nat.reduceAdd, Nat.reduceBEq, Qs.fc, hch, bsz]
      repeat (refine And.intro (by omega) ?_)
      refine SemOps.callw [1] cal.f163 (hc1) rfl rfl rfl (by simp -dsimp (decide := true) (disch := first | omega | simp (decide := true) only [qdcpb21]) only [qdcpb23, ↓brun_b, Nat.reduceAdd]) rfl (by simp -dsimp (decide := true) (disch := first | omega | simp (decide := true) only [qdcpb21]) only [qdcpb23, Nat.reduceAdd]) (by simp -dsimp (decide := true) (disch := first | omega | simp (decide := true) only [qdcpb21]) only [qdcpb24]) ?_
      refine SemOps.go (k := 1000) ?_
      simp -dsimp (decide := true) (disch := first | omega | simp (decide := true) only [qdcpb21]) only [qdcpb22, ↓brun_b, Nat.reduceAdd, Nat.reduceBEq, hwk]
      repeat (refine And.intro (by omega) ?_)
      refine ⟨⟨i + 1, by omega, by rw [hGb]; exact hp1, by rw [hGb, hm4, ← hir]; cases rt <;> rfl, by rw [hGb, hm5, ← his]; cases st <;> rfl⟩, [0, 1, 2], ?_, by show l.length - (i + 1) < l.length - i; omega⟩
      (refine Wk.ofC ?_; simp -dsimp (decide := true) (disch := first | omega | simp (decide := true) only [qdcpb21]) only [qdcpb23, ↓brun_b, Nat.reduceAdd, Nat.reduceBEq, hGb])
      all_goals (intro e he; rw [FC.ent]; (repeat' apply And.intro) <;> first | exact Ent.self (flat_v _) | exact Ent.self (bsl_flat _) | exact entE _ _ | exact entE2 _ _)
    · replace hch : strAt ⟨l.toArray⟩ i = 111 := hch
      have hS0 : qstep b ⟨F, rt, st, p, e⟩ 111 = ⟨{ F with op := (qnum 1 4 2 b p e).1 }, rt, st, (qnum 1 4 2 b p e).2.1, (qnum 1 4 2 b p e).2.2⟩ := rfl
      have hc1 := (qnum_takes 1 4 2 (by decide) (by decide)) b p e hb hip
      rcases hr1 : qnum 1 4 2 b p e with ⟨x1, p1, e1⟩
      rw [hr1] at hc1
      simp only at hc1
      have hp1 := qnum_at hb hip hr1
      simp only [hr1] at hS0
      rw [hS0] at hGb
      simp -dsimp (decide := true) (disch := first | omega | simp (decide := true) only [qdcpb21]) only [qdcpb22, ↓brun_b, Nat.reduceAdd, Nat.reduceBEq, Qs.fc, hch, bsz]
      repeat (refine And.intro (by omega) ?_)
      refine SemOps.callw [1] cal.f163 (hc1) rfl rfl rfl (by simp -dsimp (decide := true) (disch := first | omega | simp (decide := true) only [qdcpb21]) only [qdcpb23, ↓brun_b, Nat.reduceAdd]) rfl (by simp -dsimp (decide := true) (disch := first | omega | simp (decide := true) only [qdcpb21]) only [qdcpb23, Nat.reduceAdd]) (by simp -dsimp (decide := true) (disch := first | omega | simp (decide := true) only [qdcpb21]) only [qdcpb24]) ?_
      refine SemOps.go (k := 1000) ?_
      simp -dsimp (decide := true) (disch := first | omega | simp (decide := true) only [qdcpb21]) only [qdcpb22, ↓brun_b, Nat.reduceAdd, Nat.reduceBEq, hwk]
      repeat (refine And.intro (by omega) ?_)
      refine ⟨⟨i + 1, by omega, by rw [hGb]; exact hp1, by rw [hGb, hm4, ← hir]; cases rt <;> rfl, by rw [hGb, hm5, ← his]; cases st <;> rfl⟩, [0, 1, 2], ?_, by show l.length - (i + 1) < l.length - i; omega⟩
      (refine Wk.ofC ?_; simp -dsimp (decide := true) (disch := first | omega | simp (decide := true) only [qdcpb21]) only [qdcpb23, ↓brun_b, Nat.reduceAdd, Nat.reduceBEq, hGb])
      all_goals (intro e he; rw [FC.ent]; (repeat' apply And.intro) <;> first | exact Ent.self (flat_v _) | exact Ent.self (bsl_flat _) | exact entE _ _ | exact entE2 _ _)
    · replace hch : strAt ⟨l.toArray⟩ i = 119 := hch
      have hS0 : qstep b ⟨F, rt, st, p, e⟩ 119 = ⟨{ F with ttl := (qnum 0 64 2 b p e).1 }, rt, st, (qnum 0 64 2 b p e).2.1, (qnum 0 64 2 b p e).2.2⟩ := rfl
      have hc1 := (qnum_takes 0 64 2 (by decide) (by decide)) b p e hb hip
      rcases hr1 : qnum 0 64 2 b p e with ⟨x1, p1, e1⟩
      rw [hr1] at hc1
      simp only at hc1
      have hp1 := qnum_at hb hip hr1
      simp only [hr1] at hS0
      rw [hS0] at hGb
      simp -dsimp (decide := true) (disch := first | omega | simp (decide := true) only [qdcpb21]) only [qdcpb22, ↓brun_b, Nat.reduceAdd, Nat.reduceBEq, Qs.fc, hch, bsz]
      repeat (refine And.intro (by omega) ?_)
      refine SemOps.callw [1] cal.f163 (hc1) rfl rfl rfl (by simp -dsimp (decide := true) (disch := first | omega | simp (decide := true) only [qdcpb21]) only [qdcpb23, ↓brun_b, Nat.reduceAdd]) rfl (by simp -dsimp (decide := true) (disch := first | omega | simp (decide := true) only [qdcpb21]) only [qdcpb23, Nat.reduceAdd]) (by simp -dsimp (decide := true) (disch := first | omega | simp (decide := true) only [qdcpb21]) only [qdcpb24]) ?_
      refine SemOps.go (k := 1000) ?_
      simp -dsimp (decide := true) (disch := first | omega | simp (decide := true) only [qdcpb21]) only [qdcpb22, ↓brun_b, Nat.reduceAdd, Nat.reduceBEq, hwk]
      repeat (refine And.intro (by omega) ?_)
      refine ⟨⟨i + 1, by omega, by rw [hGb]; exact hp1, by rw [hGb, hm4, ← hir]; cases rt <;> rfl, by rw [hGb, hm5, ← his]; cases st <;> rfl⟩, [0, 1, 2], ?_, by show l.length - (i + 1) < l.length - i; omega⟩
      (refine Wk.ofC ?_; simp -dsimp (decide := true) (disch := first | omega | simp (decide := true) only [qdcpb21]) only [qdcpb23, ↓brun_b, Nat.reduceAdd, Nat.reduceBEq, hGb])
      all_goals (intro e he; rw [FC.ent]; (repeat' apply And.intro) <;> first | exact Ent.self (flat_v _) | exact Ent.self (bsl_flat _) | exact entE _ _ | exact entE2 _ _)
    · replace hch : strAt ⟨l.toArray⟩ i = 120 := hch
      have hS0 : qstep b ⟨F, rt, st, p, e⟩ 120 = ⟨{ F with tx := (qtext 4096 b p e).1 }, rt, st, (qtext 4096 b p e).2.1, (qtext 4096 b p e).2.2⟩ := rfl
      have hc1 := (qtext_takes 4096 (by decide)) b p e hb hip
      rcases hr1 : qtext 4096 b p e with ⟨x1, p1, e1⟩
      rw [hr1] at hc1
      simp only at hc1
      have hp1 := qtext_at hb hip hr1
      simp only [hr1] at hS0
      rw [hS0] at hGb
      simp -dsimp (decide := true) (disch := first | omega | simp (decide := true) only [qdcpb21]) only [qdcpb22, ↓brun_b, Nat.reduceAdd, Nat.reduceBEq, Qs.fc, hch, bsz]
      repeat (refine And.intro (by omega) ?_)
      refine SemOps.callw [1] cal.f166 (hc1) rfl rfl rfl (by simp -dsimp (decide := true) (disch := first | omega | simp (decide := true) only [qdcpb21]) only [qdcpb23, ↓brun_b, Nat.reduceAdd]) rfl (by simp -dsimp (decide := true) (disch := first | omega | simp (decide := true) only [qdcpb21]) only [qdcpb23, Nat.reduceAdd]) (by simp -dsimp (decide := true) (disch := first | omega | simp (decide := true) only [qdcpb21]) only [qdcpb24]) ?_
      refine SemOps.go (k := 1000) ?_
      simp -dsimp (decide := true) (disch := first | omega | simp (decide := true) only [qdcpb21]) only [qdcpb22, ↓brun_b, Nat.reduceAdd, Nat.reduceBEq, hwk]
      repeat (refine And.intro (by omega) ?_)
      refine ⟨⟨i + 1, by omega, by rw [hGb]; exact hp1, by rw [hGb, hm4, ← hir]; cases rt <;> rfl, by rw [hGb, hm5, ← his]; cases st <;> rfl⟩, [0, 1, 2], ?_, by show l.length - (i + 1) < l.length - i; omega⟩
      (refine Wk.ofC ?_; simp -dsimp (decide := true) (disch := first | omega | simp (decide := true) only [qdcpb21]) only [qdcpb23, ↓brun_b, Nat.reduceAdd, Nat.reduceBEq, hGb])
      all_goals (intro e he; rw [FC.ent]; (repeat' apply And.intro) <;> first | exact Ent.self (flat_v _) | exact Ent.self (bsl_flat _) | exact entE _ _ | exact entE2 _ _)
    · replace hch : strAt ⟨l.toArray⟩ i = 121 := hch
      have hS0 : qstep b ⟨F, rt, st, p, e⟩ 121 = ⟨{ F with tx := (qtext 64 b p e).1 }, rt, st, (qtext 64 b p e).2.1, (qtext 64 b p e).2.2⟩ := rfl
      have hc1 := (qtext_takes 64 (by decide)) b p e hb hip
      rcases hr1 : qtext 64 b p e with ⟨x1, p1, e1⟩
      rw [hr1] at hc1
      simp only at hc1
      have hp1 := qtext_at hb hip hr1
      simp only [hr1] at hS0
      rw [hS0] at hGb
      simp -dsimp (decide := true) (disch := first | omega | simp (decide := true) only [qdcpb21]) only [qdcpb22, ↓brun_b, Nat.reduceAdd, Nat.reduceBEq, Qs.fc, hch, bsz]
      repeat (refine And.intro (by omega) ?_)
      refine SemOps.callw [1] cal.f166 (hc1) rfl rfl rfl (by simp -dsimp (decide := true) (disch := first | omega | simp (decide := true) only [qdcpb21]) only [qdcpb23, ↓brun_b, Nat.reduceAdd]) rfl (by simp -dsimp (decide := true) (disch := first | omega | simp (decide := true) only [qdcpb21]) only [qdcpb23, Nat.reduceAdd]) (by simp -dsimp (decide := true) (disch := first | omega | simp (decide := true) only [qdcpb21]) only [qdcpb24]) ?_
      refine SemOps.go (k := 1000) ?_
      simp -dsimp (decide := true) (disch := first | omega | simp (decide := true) only [qdcpb21]) only [qdcpb22, ↓brun_b, Nat.reduceAdd, Nat.reduceBEq, hwk]
      repeat (refine And.intro (by omega) ?_)
      refine ⟨⟨i + 1, by omega, by rw [hGb]; exact hp1, by rw [hGb, hm4, ← hir]; cases rt <;> rfl, by rw [hGb, hm5, ← his]; cases st <;> rfl⟩, [0, 1, 2], ?_, by show l.length - (i + 1) < l.length - i; omega⟩
      (refine Wk.ofC ?_; simp -dsimp (decide := true) (disch := first | omega | simp (decide := true) only [qdcpb21]) only [qdcpb23, ↓brun_b, Nat.reduceAdd, Nat.reduceBEq, hGb])
      all_goals (intro e he; rw [FC.ent]; (repeat' apply And.intro) <;> first | exact Ent.self (flat_v _) | exact Ent.self (bsl_flat _) | exact entE _ _ | exact entE2 _ _)
end Go.Proofs
namespace Go.Proofs
open Go Go.SL
set_option maxRecDepth 100000
theorem lcell_one (z : Nat) (t : Bool) (rows : List (List SV)) : (lcell z t rows).one = true := by cases t <;> rfl
theorem b262 (b : List UInt8) : sBuild Try.prog 262 [(0, bsl b)] = some ⟨.agg [bsl b, .v (.int .i64 0), .v (.int .i64 0)], {}, True⟩ := by
  rw [sBuild_eq, tab.z262, tab.l262]; rfl
def q0 (b : List UInt8) : Qs := ⟨kF ((qnum 1 12 2 b 0 0).1 : Int), false, false, (qnum 1 12 2 b 0 0).2.1, (qnum 1 12 2 b 0 0).2.2⟩
def formQ (k : Int) : List UInt8 := if forms k = [63] then [] else forms k
def qX (b : List UInt8) : Qs := qall b (formQ (q0 b).F.kind) (q0 b)
def qfin (b : List UInt8) (X : Qs) : Frm × Int :=
  if X.e ≠ 0 then (zFrm, X.e) else if X.p < (b.length : Int) then (zFrm, 4) else (X.F, 0)
def qtup (r : Frm × Int) : SV := .tup [.agg r.1.fc.c, .v (.int .i64 r.2)]
def tailQ (fn : Func) : Option Go.Code :=
  match fn.body with
  | some (Go.Code.seq _ (Go.Code.seq _ (Go.Code.seq _ (Go.Code.seq _ (Go.Code.seq _ (Go.Code.seq _ (Go.Code.seq _ c))))))) => some c
  | _ => none
theorem Qfc_tell {fz : Nat → Option SB} {ρ : Nat → Nat} (X : Qs) (h1 : X.rt = false → X.F.tr = []) (h2 : X.st = false → X.F.is = []) : EntL fz ρ X.F.fc.c X.fc.c := by
  unfold Qs.fc Frm.fc
  rw [FC.ent]
  have e1 : Ent fz ρ (.rsl 1 (lrows X.F.tr)) (lcell 1 X.rt (lrows X.F.tr)) := by
    cases h : X.rt
    · rw [h1 h]; exact ent_nil _
    · exact Ent.self (lsl_flat _)
  have e2 : Ent fz ρ (.rsl 16 (idrs X.F.is)) (lcell 16 X.st (idrs X.F.is)) := by
    cases h : X.st
    · rw [h2 h]; exact ent_nil _
    · exact Ent.self (isl_flat _)
  (repeat' apply And.intro) <;> first | exact Ent.self (flat_v _) | exact Ent.self (bsl_flat _) | exact e1 | exact e2
def qdcpb30 :=
  (And.intro (And.intro qdcpc3 @FC.c_length) (And.intro @idrs_len (And.intro @lcell_one @lrows_length)))
set_option maxHeartbeats 16000000 in
theorem qtail (b : List UInt8) (X : Qs) (h1 : X.rt = false → X.F.tr = []) (h2 : X.st = false → X.F.is = []) (c : Go.Code) (hc : tailQ Try.f118 = some c) :
    Go.SL.Sem Try.prog (SQ Try.prog Try.f118 fun r L => r = SE.ret (qtup (qfin b X)) ∧ L = []) [.code c] ⟨193, 0, [(0, bsl b), (2, .ptr 0 0 0), (3, .v (.int .i64 0)), (4, .ptr 1 0 0), (5, .ptr 2 0 0)], [some (.row ⟨95, 1, true, 151, fun _ => zF.c⟩), some (.row ⟨3, 1, true, 262, fun _ => [bsl b, .v (.int .i64 X.p), .v (.int .i64 X.e)]⟩), some (.row ⟨95, 1, true, 151, fun _ => (X).fc.c⟩)]⟩ := by
  cases hc
  obtain ⟨F, rt, st, p, e⟩ := X
  simp only at h1 h2
  have hT1 := fun fz ρ => Qfc_tell (fz := fz) (ρ := ρ) ⟨F, rt, st, p, e⟩ h1 h2
  by_cases he : e = 0
  · subst he
    by_cases hp : p < (b.length : Int)
    · have hd : decide (p < (b.length : Int)) = true := decide_eq_true hp
      have hX : qfin b ⟨F, rt, st, p, 0⟩ = (zFrm, 4) := by unfold qfin; rw [if_neg (fun h => h rfl), if_pos hp]
      rw [hX]
      unfold qtup
      refine Sem.go (k := 1000) ?_
      simp -dsimp (decide := true) (disch := first | omega | simp (decide := true) only [qdcpb30]) only [qdcpb22, ↓brun_b, Nat.reduceAdd, Nat.reduceBEq, Frm.fc, Qs.fc, hd]
      refine Sem.draw' (by kernel_rfl) (.one 0 (.one 1 (.one 2 (.one 3 (.one 4 (.alt 5 (.one 6 .done) .non)))))) [0] (by kernel_rfl) (fun G ff hG hf => ?_)
      simp (decide := true) only [qdcpb4, Nat.reduceAdd] at hG ⊢
      simp -dsimp (decide := true) (disch := first | omega | simp (decide := true) only [qdcpb30]) only [qdcpb22, ↓brun_b, Nat.reduceAdd, Nat.reduceBEq, hG]
      (repeat' refine And.intro ?_ ?_)
      all_goals
        refine hf _ (Sem.go (k := 1000) ?_)
        simp (decide := true) only [back_mk, backL_in, backL_row, backL_nil, Nat.zero_add, Nat.reduceAdd]
        simp -dsimp (decide := true) (disch := first | omega | simp (decide := true) only [qdcpb30]) only [qdcpb22]
        refine SQ.answer (rs := [.cell 2 151, .tmp 3]) rfl rfl ?_
        simp -dsimp (decide := true) (disch := first | omega | simp (decide := true) only [qdcpb30]) only [qdcpb23, ↓brun_b, Nat.reduceAdd, Nat.reduceBEq, rho]
        exact zF_ent
    · have hd : decide (p < (b.length : Int)) = false := decide_eq_false hp
      have hX : qfin b ⟨F, rt, st, p, 0⟩ = (F, 0) := by unfold qfin; rw [if_neg (fun h => h rfl), if_neg hp]
      rw [hX]
      unfold qtup
      refine Sem.go (k := 1000) ?_
      simp -dsimp (decide := true) (disch := first | omega | simp (decide := true) only [qdcpb30]) only [qdcpb22, ↓brun_b, Nat.reduceAdd, Nat.reduceBEq, Frm.fc, Qs.fc, hd]
      refine SQ.answer (rs := [.cell 2 151, .tmp 3]) rfl rfl ?_
      simp -dsimp (decide := true) (disch := first | omega | simp (decide := true) only [qdcpb30]) only [qdcpb23, ↓brun_b, Nat.reduceAdd, Nat.reduceBEq, rho]
      exact hT1 _ _
  · have hd : decide (e = 0) = false := decide_eq_false he
    have hX : qfin b ⟨F, rt, st, p, e⟩ = (zFrm, e) := by unfold qfin; rw [if_pos he]
    rw [hX]
    unfold qtup
    refine Sem.go (k := 1000) ?_
    simp -dsimp (decide := true) (disch := first | omega | simp (decide := true) only [qdcpb30]) only [qdcpb22, ↓brun_b, Nat.reduceAdd, Nat.reduceBEq, Frm.fc, Qs.fc, hd]
    refine Sem.draw' (by kernel_rfl) (.one 0 (.one 1 (.one 2 (.one 3 (.one 4 (.alt 5 (.one 6 .done) .non)))))) [0] (by kernel_rfl) (fun G ff hG hf => ?_)
    simp (decide := true) only [qdcpb4, Nat.reduceAdd] at hG ⊢
    simp -dsimp (decide := true) (disch := first | omega | simp (decide := true) only [qdcpb30]) only [qdcpb22, ↓brun_b, Nat.reduceAdd, Nat.reduceBEq, hG]
    (repeat' refine And.intro ?_ ?_)
    all_goals
      refine hf _ (Sem.go (k := 1000) ?_)
      simp (decide := true) only [back_mk, backL_in, backL_row, backL_nil, Nat.zero_add, Nat.reduceAdd]
      simp -dsimp (decide := true) (disch := first | omega | simp (decide := true) only [qdcpb30]) only [qdcpb22]
      refine SQ.answer (rs := [.cell 2 151, .tmp 3]) rfl rfl ?_
      simp -dsimp (decide := true) (disch := first | omega | simp (decide := true) only [qdcpb30]) only [qdcpb23, ↓brun_b, Nat.reduceAdd, Nat.reduceBEq, rho]
      exact zF_ent
theorem ite_P {α : Type} (P : α → Prop) {c : Prop} [Decidable c] {a b : α} (h1 : P a) (h2 : P b) : P (if c then a else b) := by split <;> assumption
theorem qat {b : List UInt8} {c : UInt8} {Q : Qs} (h1 : Q.rt = false → Q.F.tr = []) : (qstep b Q c).rt = false → (qstep b Q c).F.tr = [] := by
  unfold qstep
  (repeat' refine ite_P (fun X : Qs => X.rt = false → X.F.tr = []) ?_ ?_)
  all_goals first | exact h1 | exact nofun
theorem qas {b : List UInt8} {c : UInt8} {Q : Qs} (h1 : Q.st = false → Q.F.is = []) : (qstep b Q c).st = false → (qstep b Q c).F.is = [] := by
  unfold qstep
  (repeat' refine ite_P (fun X : Qs => X.st = false → X.F.is = []) ?_ ?_)
  all_goals first | exact h1 | exact nofun
theorem qall_t {b : List UInt8} : ∀ (l : List UInt8) (Q : Qs), (Q.rt = false → Q.F.tr = []) → (qall b l Q).rt = false → (qall b l Q).F.tr = []
  | [], Q, h => h
  | c :: l, Q, h => qall_t l (qstep b Q c) (qat h)
theorem qall_s {b : List UInt8} : ∀ (l : List UInt8) (Q : Qs), (Q.st = false → Q.F.is = []) → (qall b l Q).st = false → (qall b l Q).F.is = []
  | [], Q, h => h
  | c :: l, Q, h => qall_s l (qstep b Q c) (qas h)
theorem formQ_ok (k : Int) : (formQ k).length < 100 ∧ (∀ c ∈ formQ k, isLet c = true) ∧ (formQ k).Nodup := by
  unfold formQ
  by_cases h : 1 ≤ k ∧ k ≤ 12
  · have : k = 1 ∨ k = 2 ∨ k = 3 ∨ k = 4 ∨ k = 5 ∨ k = 6 ∨ k = 7 ∨ k = 8 ∨ k = 9 ∨ k = 10 ∨ k = 11 ∨ k = 12 := by omega
    rcases this with rfl | rfl | rfl | rfl | rfl | rfl | rfl | rfl | rfl | rfl | rfl | rfl <;> decide
  · rw [if_pos (forms_none k (by omega))]
    decide
theorem q0_ent {fz : Nat → Option SB} {ρ : Nat → Nat} (n : Int) (p e : Int) : EntL fz ρ (Qs.fc ⟨kF n, false, false, p, e⟩).c (FC.c { zF with kind := .v (.int .i64 n) }) := by
  unfold Qs.fc kF zFrm zF
  rw [FC.ent]
  (repeat' apply And.intro) <;> first | exact Ent.self (flat_v _) | exact ent_nil _ | exact Ent.self rfl
def qdcpb31 :=
  (And.intro (And.intro (And.intro qdcpc4 (And.intro qdcpc0 qdcpc1)) (And.intro (And.intro qdcpc5 qdcpc2) (And.intro @FC.c_length @Int.cast_ofNat_Int))) (And.intro (And.intro (And.intro @b262 @idrs_len) (And.intro @lrows_length @tab.a23)) (And.intro (And.intro @tab.s2 @tab.s23) (And.intro @tab.u2 @tab.u36))))
def qdcpb32 :=
  (And.intro (And.intro (And.intro (And.intro qdcpc4 qdcpc0) (And.intro qdcpc1 (And.intro qdcpc5 qdcpc2))) (And.intro (And.intro @FC.c_length @Int.cast_ofNat_Int) (And.intro @b262 (And.intro @bwk_a @eq_self.{1})))) (And.intro (And.intro (And.intro @forall_const.{1} @idrs_len) (And.intro @implies_true.{0} (And.intro @implies_true.{1} @lrows_length))) (And.intro (And.intro @tab.a23 @tab.s2) (And.intro @tab.s23 (And.intro @tab.u2 @tab.u36)))))
set_option maxHeartbeats 16000000 in
theorem qdec_calls (b : List UInt8) (hb : b.length ≤ 140737488355328) : Pure Try.prog 118 [bsl b] (qtup (qfin b (qX b))) := by
  have hp0 : I64 0 := by unfold I64; omega
  have hc := qnum_takes 1 12 2 (by decide) (by decide) b 0 0 hb hp0
  have hf := form_calls ((qnum 1 12 2 b 0 0).1 : Int)
  unfold fstr at hf
  obtain ⟨f1, f2, f3⟩ := formQ_ok (q0 b).F.kind
  have hL := fun K => qloop b hb (formQ (q0 b).F.kind) f1 f2 f3 (q0 b) (qnum_at hb hp0 (e := 0) (x := (qnum 1 12 2 b 0 0).1) (e' := (qnum 1 12 2 b 0 0).2.2) rfl) rfl rfl (SQ Try.prog Try.f118 fun r L => r = SE.ret (qtup (qfin b (qX b))) ∧ L = []) K _ rfl
  have hT := qtail b (qX b) (qall_t _ _ fun _ => rfl) (qall_s _ _ fun _ => rfl) _ rfl
  refine SCall.mk (fn := Try.f118) (by kernel_rfl) rfl (Nat.le_of_ble_eq_true (by kernel_rfl)) ?_
  refine Sem.go (k := 1000) ?_
  simp -dsimp (decide := true) (disch := first | omega | simp (decide := true) only [qdcpb30]) only [qdcpb31, ↓brun_b, envOf, Nat.reduceAdd, Nat.reduceBEq]
  refine SemOps.callw [1] cal.f163 (hc) rfl rfl rfl (by simp -dsimp (decide := true) (disch := first | omega | simp (decide := true) only [qdcpb30]) only [qdcpb32, ↓brun_b, Nat.reduceAdd]) rfl (by simp -dsimp (decide := true) (disch := first | omega | simp (decide := true) only [qdcpb30]) only [qdcpb32, Nat.reduceAdd]) (by simp -dsimp (decide := true) (disch := first | omega | simp (decide := true) only [qdcpb30]) only [qdcpb24]) ?_
  refine SemOps.go (k := 1000) ?_
  simp -dsimp (decide := true) (disch := first | omega | simp (decide := true) only [qdcpb30]) only [qdcpb22, ↓brun_b, Nat.reduceAdd, Nat.reduceBEq]
  refine SemOps.callq (k := 5) cal.f151 (hf) rfl rfl rfl rfl (by simp only [bflat_a]) (by simp only [bflat_a]) (by simp -dsimp (decide := true) (disch := first | omega | simp (decide := true) only [qdcpb30]) only [qdcpb24]) ?_
  by_cases h63 : forms ((qnum 1 12 2 b 0 0).1 : Int) = [63]
  · have hq : decide ((⟨(forms ((qnum 1 12 2 b 0 0).1 : Int)).toArray⟩ : ByteArray) = ⟨#[63]⟩) = true := by rw [h63]; decide
    simp -dsimp (decide := true) (disch := first | omega | simp (decide := true) only [qdcpb30]) only [qdcpb22, ↓brun_b, Nat.reduceAdd, hq]
    refine Sem.split [] ?_
    refine Sem.cutW [_] ⟨193, 0, [(0, bsl b), (2, .ptr 0 0 0), (3, .v (.int .i64 0)), (4, .ptr 1 0 0), (5, .ptr 2 0 0), (6, .v (.string ⟨(formQ (q0 b).F.kind).toArray⟩)), (7, .v (.int .i64 ((formQ (q0 b).F.kind).length : Int)))], [some (.row ⟨95, 1, true, 151, fun _ => zF.c⟩), some (.row ⟨3, 1, true, 262, fun _ => [bsl b, .v (.int .i64 (qall b (formQ (q0 b).F.kind) (q0 b)).p), .v (.int .i64 (qall b (formQ (q0 b).F.kind) (q0 b)).e)]⟩), some (.row ⟨95, 1, true, 151, fun _ => ((qall b (formQ (q0 b).F.kind) (q0 b))).fc.c⟩)]⟩ ?_ ?_
    · have hk : formQ (q0 b).F.kind = [] := if_pos h63
      rw [hk] at hL ⊢
      refine Sem.weaken [0, 1, 2] ?_ (hL _)
      (refine Wk.ofC ?_; simp -dsimp (decide := true) (disch := first | omega | simp (decide := true) only [qdcpb30]) only [qdcpb23, ↓brun_b, Nat.reduceAdd, Nat.reduceBEq, q0])
      exact fun e he => q0_ent _ _ _
    · refine Sem.weaken [0, 1, 2] ?_ hT
      (refine Wk.ofC ?_; simp -dsimp (decide := true) (disch := first | omega | simp (decide := true) only [qdcpb30]) only [qdcpb23, ↓brun_b, Nat.reduceAdd, Nat.reduceBEq, qX])
      exact fun e he => Qfc_ent _
  · have hq : decide ((⟨(forms ((qnum 1 12 2 b 0 0).1 : Int)).toArray⟩ : ByteArray) = ⟨#[63]⟩) = false := decide_eq_false (fun h => h63 (by have := congrArg ByteArray.data h; simpa using this))
    simp -dsimp (decide := true) (disch := first | omega | simp (decide := true) only [qdcpb30]) only [qdcpb22, ↓brun_b, Nat.reduceAdd, hq]
    refine Sem.split [] ?_
    refine Sem.cutW [_] ⟨193, 0, [(0, bsl b), (2, .ptr 0 0 0), (3, .v (.int .i64 0)), (4, .ptr 1 0 0), (5, .ptr 2 0 0), (6, .v (.string ⟨(formQ (q0 b).F.kind).toArray⟩)), (7, .v (.int .i64 ((formQ (q0 b).F.kind).length : Int)))], [some (.row ⟨95, 1, true, 151, fun _ => zF.c⟩), some (.row ⟨3, 1, true, 262, fun _ => [bsl b, .v (.int .i64 (qall b (formQ (q0 b).F.kind) (q0 b)).p), .v (.int .i64 (qall b (formQ (q0 b).F.kind) (q0 b)).e)]⟩), some (.row ⟨95, 1, true, 151, fun _ => ((qall b (formQ (q0 b).F.kind) (q0 b))).fc.c⟩)]⟩ ?_ ?_
    · have hk : formQ (q0 b).F.kind = forms ((qnum 1 12 2 b 0 0).1 : Int) := if_neg h63
      rw [hk] at hL ⊢
      refine Sem.weaken [0, 1, 2] ?_ (hL _)
      (refine Wk.ofC ?_; simp -dsimp (decide := true) (disch := first | omega | simp (decide := true) only [qdcpb30]) only [qdcpb23, ↓brun_b, Nat.reduceAdd, Nat.reduceBEq, q0])
      exact fun e he => q0_ent _ _ _
    · refine Sem.weaken [0, 1, 2] ?_ hT
      (refine Wk.ofC ?_; simp -dsimp (decide := true) (disch := first | omega | simp (decide := true) only [qdcpb30]) only [qdcpb23, ↓brun_b, Nat.reduceAdd, Nat.reduceBEq, qX])
      exact fun e he => Qfc_ent _
end Go.Proofs
namespace Go.Proofs
open Go Go.SL
set_option maxRecDepth 100000
def Br {α : Type} (q : Qr α) (r : Rd α) : Prop := ∀ b p, match r b p with
  | .error e => e ≠ 0 ∧ (q b p 0).2.2 = e
  | .ok (x, p') => q b p 0 = (x, p', 0)
theorem br_any : Br qany rnum := by
  intro b p
  unfold qany qnum rnum
  rw [if_neg (fun h => h rfl)]
  rcases hg : getNum b p with ⟨n, q, e⟩
  simp only
  by_cases he : e ≠ 0
  · rw [if_pos he]; exact ⟨he, by rw [if_pos he]⟩
  · rw [if_neg he]
    by_cases hn : 9223372036854775808 ≤ n
    · rw [if_pos hn]; exact ⟨by decide, by rw [if_neg he, if_pos hn]⟩
    · rw [if_neg hn]
      show (if e ≠ 0 then _ else _) = _
      rw [if_neg he, if_neg hn, if_neg (by omega)]
def rin (lo hi : Nat) (err : Int) : Rd Nat := fun b p => match rnum b p with
  | .error e => .error e
  | .ok (n, q) => if n < lo ∨ hi < n then .error err else .ok (n, q)
theorem br_in (lo hi : Nat) (err : Int) (h : err ≠ 0) : Br (qnum lo hi err) (rin lo hi err) := by
  intro b p
  unfold rin qnum rnum
  rw [if_neg (fun h => h rfl)]
  rcases hg : getNum b p with ⟨n, q, e⟩
  simp only
  by_cases he : e ≠ 0
  · rw [if_pos he]; exact ⟨he, by rw [if_pos he]⟩
  · rw [if_neg he]
    by_cases hn : 9223372036854775808 ≤ n
    · rw [if_pos hn]; exact ⟨by decide, by rw [if_neg he, if_pos hn]⟩
    · rw [if_neg hn]
      simp only
      by_cases hl : n < lo ∨ hi < n
      · rw [if_pos hl]; exact ⟨h, by rw [if_neg he, if_neg hn, if_pos hl]⟩
      · rw [if_neg hl]
        show (if e ≠ 0 then _ else _) = _
        rw [if_neg he, if_neg hn, if_neg hl]
theorem br_id (hne : ∀ b p e, ridI b p = .error e → e ≠ 0) : Br qid ridI := by
  intro b p
  unfold qid
  rw [if_neg (fun h => h rfl)]
  rcases hg : ridI b p with e | ⟨x, q⟩
  · exact ⟨hne b p e hg, rfl⟩
  · rfl
theorem rid_ne {b : List UInt8} {p e : Int} (h : ridI b p = .error e) : e ≠ 0 := by
  unfold ridI rid at h
  rcases hg : getID b p with ⟨x, q, e'⟩
  rw [hg] at h
  simp only at h
  by_cases he : e' ≠ 0
  · rw [if_pos he] at h; injection h with h; subst h; exact he
  · rw [if_neg he] at h
    simp only at h
    split at h
    · cases h
    · injection h with h; omega
theorem rtext_ne {most : Int} {b : List UInt8} {p e : Int} (h : rtext most b p = .error e) : e ≠ 0 := by
  unfold rtext at h
  rcases hg : getText b p most with ⟨x, q, e'⟩
  rw [hg] at h
  simp only at h
  by_cases he : e' ≠ 0
  · rw [if_pos he] at h; injection h with h; subst h; exact he
  · rw [if_neg he] at h; cases h
theorem br_text (most : Int) : Br (qtext most) (rtext most) := by
  intro b p
  unfold qtext
  rw [if_neg (fun h => h rfl)]
  rcases hg : rtext most b p with e | ⟨x, q⟩
  · exact ⟨rtext_ne hg, rfl⟩
  · rfl
def Stk {α : Type} (q : Qr α) : Prop := ∀ b p e, e ≠ 0 → (q b p e).2.2 = e
theorem stk_num (lo hi : Nat) (err : Int) : Stk (qnum lo hi err) := fun b p e h => by unfold qnum; rw [if_pos h]
theorem stk_any : Stk qany := stk_num _ _ _
theorem stk_id : Stk qid := fun b p e h => by unfold qid; rw [if_pos h]
theorem stk_text (m : Int) : Stk (qtext m) := fun b p e h => by unfold qtext; rw [if_pos h]
def qboth {α β : Type} (q : Qr α) (s : Qr β) : Qr (α × β) := fun b p e => (((q b p e).1, (s b (q b p e).2.1 (q b p e).2.2).1), (s b (q b p e).2.1 (q b p e).2.2).2.1, (s b (q b p e).2.1 (q b p e).2.2).2.2)
theorem stk_both {α β : Type} {q : Qr α} {s : Qr β} (h1 : Stk q) (h2 : Stk s) : Stk (qboth q s) := fun b p e h => by
  show (s b (q b p e).2.1 (q b p e).2.2).2.2 = e
  rw [h1 b p e h]
  exact h2 b _ e h
theorem br_both {α β : Type} {q : Qr α} {s : Qr β} {r : Rd α} {t : Rd β} (h1 : Br q r) (h2 : Br s t) (hs : Stk s) : Br (qboth q s) (Rd.both r t) := by
  intro b p
  have a1 := h1 b p
  unfold Rd.both
  rcases hr : r b p with e | ⟨x, p1⟩
  · rw [hr] at a1
    simp only at a1 ⊢
    refine ⟨a1.1, ?_⟩
    show (s b (q b p 0).2.1 (q b p 0).2.2).2.2 = e
    rw [a1.2]
    exact hs b _ e a1.1
  · rw [hr] at a1
    simp only at a1 ⊢
    have a2 := h2 b p1
    rcases ht : t b p1 with e | ⟨y, p2⟩
    · rw [ht] at a2
      simp only at a2 ⊢
      refine ⟨a2.1, ?_⟩
      show (s b (q b p 0).2.1 (q b p 0).2.2).2.2 = e
      rw [a1]
      exact a2.2
    · rw [ht] at a2
      simp only at a2 ⊢
      show (((q b p 0).1, (s b (q b p 0).2.1 (q b p 0).2.2).1), (s b (q b p 0).2.1 (q b p 0).2.2).2.1, (s b (q b p 0).2.1 (q b p 0).2.2).2.2) = _
      rw [a1]
      show (((x : α), (s b p1 0).1), (s b p1 0).2.1, (s b p1 0).2.2) = _
      rw [a2]
theorem map_map {α β γ : Type} (f : β → γ) (g : α → β) (r : Rd α) : Rd.map f (Rd.map g r) = Rd.map (fun x => f (g x)) r := by
  funext b p
  unfold Rd.map
  rcases r b p with e | ⟨x, q⟩ <;> rfl
theorem both_mapl {α β γ : Type} (f : α → γ) (r : Rd α) (s : Rd β) : Rd.both (Rd.map f r) s = Rd.map (fun x => (f x.1, x.2)) (Rd.both r s) := by
  funext b p
  simp only [Rd.map, Rd.both]
  rcases r b p with e | ⟨x, q⟩
  · rfl
  · simp only <;> (rcases s b q with e | ⟨y, q2⟩ <;> rfl)
theorem both_mapr {α β δ : Type} (g : β → δ) (r : Rd α) (s : Rd β) : Rd.both r (Rd.map g s) = Rd.map (fun x => (x.1, g x.2)) (Rd.both r s) := by
  funext b p
  simp only [Rd.map, Rd.both]
  rcases r b p with e | ⟨x, q⟩
  · rfl
  · simp only <;> (rcases s b q with e | ⟨y, q2⟩ <;> rfl)
theorem bind_both {α β : Type} (r : Rd α) (s : Rd β) : (Rd.bind r fun x => Rd.bind s fun y => Rd.pure (x, y)) = Rd.both r s := by
  funext b p
  unfold Rd.bind Rd.both Rd.pure
  rcases r b p with e | ⟨x, q⟩
  · rfl
  · simp only <;> (rcases s b q with e | ⟨y, q2⟩ <;> rfl)
theorem rpair_eq : rpair = Rd.both rnum rnum := bind_both _ _
theorem rpath_eq : rpath = Rd.both ridI rnum := bind_both _ _
theorem rver_eq : rver = Rd.both rnum ridI := bind_both _ _
theorem ritem_eq : ritem = Rd.both ridI (Rd.both rver (rtext 64)) := by
  funext b p
  unfold ritem Rd.bind Rd.both Rd.pure
  rcases ridI b p with e | ⟨x, q⟩
  · rfl
  · simp only
    rcases rver b q with e | ⟨y, q2⟩
    · rfl
    · simp only <;> (rcases rtext 64 b q2 with e | ⟨z, q3⟩ <;> rfl)
theorem rsmall_eq (lo hi : Nat) (e : Int) (h1 : hi < 99) : rsmall lo hi e = rin lo hi e := by
  funext b p
  unfold rsmall Rd.bind rin
  rcases rnum b p with e | ⟨n, q⟩
  · rfl
  · simp only
    by_cases h : n < lo ∨ hi < n
    · rw [if_pos h]
      by_cases h2 : min n 99 < lo ∨ hi < min n 99
      · rw [if_pos h2]; rfl
      · exfalso; omega
    · rw [if_neg h, if_neg (by omega), show min n 99 = n by omega]; rfl
theorem rflag_eq : rflag = Rd.map (fun n : Nat => decide ((n : Int) = 1)) (rin 0 1 2) := by
  funext b p
  unfold rflag Rd.map rin
  rcases rnum b p with e | ⟨n, q⟩
  · rfl
  · simp only
    by_cases h : 1 < n
    · rw [if_pos h, if_pos (Or.inr h)]
    · rw [if_neg h, if_neg (by omega)]
      simp only
      have : decide (n = 1) = decide ((n : Int) = 1) := by rw [Bool.eq_iff_iff, decide_eq_true_eq, decide_eq_true_eq]; omega
      rw [this]
theorem rmany_eq (m : Nat) : rmany (m : Int) = rin 0 m 4 := by
  funext b p
  unfold rmany rin
  rcases rnum b p with e | ⟨n, q⟩
  · rfl
  · simp only
    by_cases h : m < n
    · rw [if_pos (Or.inr h), if_pos (by omega)]
    · rw [if_neg (by omega), if_neg (by omega)]
theorem qlegs_stk (b : List UInt8) : ∀ n l p e, e ≠ 0 → (qlegs b n l p e).2.2 = e
  | 0, _, _, _, _ => rfl
  | n + 1, l, p, e, h => by
    unfold qlegs
    rw [qlegs_stk b n _ _ _ (by rw [stk_num 0 5 2 b p e h]; exact h)]
    exact stk_num 0 5 2 b p e h
theorem qids_stk (b : List UInt8) : ∀ n l p e, e ≠ 0 → (qids b n l p e).2.2 = e
  | 0, _, _, _, _ => rfl
  | n + 1, l, p, e, h => by
    unfold qids
    rw [qids_stk b n _ _ _ (by rw [stk_id b p e h]; exact h)]
    exact stk_id b p e h
theorem qlegs_br (b : List UInt8) : ∀ n l p, match rlegs n b p with
    | .error e => e ≠ 0 ∧ (qlegs b n l p 0).2.2 = e
    | .ok (m, p') => qlegs b n l p 0 = (l ++ m, p', 0)
  | 0, l, p => by unfold rlegs Rd.pure qlegs; simp
  | n + 1, l, p => by
    have a := br_in 0 5 2 (by decide) b p
    unfold rin at a
    rw [rlegs, qlegs]
    rcases hr : rnum b p with e | ⟨x, q⟩
    · rw [hr] at a
      simp only at a
      rw [Rd.bind_err hr]
      exact ⟨a.1, by rw [qlegs_stk b n _ _ _ (by rw [a.2]; exact a.1)]; exact a.2⟩
    · rw [hr] at a
      simp only at a
      rw [Rd.bind_ok hr]
      by_cases hx : 6 ≤ x
      · rw [if_pos (Or.inr (by omega))] at a
        rw [if_pos hx]
        simp only [Rd.fail] at a ⊢
        exact ⟨a.1, by rw [qlegs_stk b n _ _ _ (by rw [a.2]; exact a.1)]; exact a.2⟩
      · rw [if_neg (by omega)] at a
        rw [if_neg hx]
        simp only at a
        rw [a]
        have ih := qlegs_br b n (l ++ [(x : Int)]) q
        rcases hl : rlegs n b q with e | ⟨m, q2⟩
        · rw [hl] at ih
          rw [Rd.bind_err hl]
          exact ih
        · rw [hl] at ih
          rw [Rd.bind_ok hl]
          simp only [Rd.pure] at ih ⊢
          rw [ih, List.append_assoc]; rfl
theorem qids_br (b : List UInt8) : ∀ n l p, match rids n b p with
    | .error e => e ≠ 0 ∧ (qids b n l p 0).2.2 = e
    | .ok (m, p') => qids b n l p 0 = (l ++ m, p', 0)
  | 0, l, p => by unfold rids Rd.pure qids; simp
  | n + 1, l, p => by
    have a := br_id (fun b p e h => rid_ne h) b p
    unfold rids Rd.bind
    unfold qids
    rcases hr : ridI b p with e | ⟨x, q⟩
    · rw [hr] at a
      simp only at a ⊢
      exact ⟨a.1, by rw [qids_stk b n _ _ _ (by rw [a.2]; exact a.1)]; exact a.2⟩
    · rw [hr] at a
      simp only at a ⊢
      rw [a]
      simp only
      have ih := qids_br b n (l ++ [x]) q
      rcases hl : rids n b q with e | ⟨m, q2⟩
      · rw [hl] at ih
        exact ih
      · rw [hl] at ih
        simp only [Rd.pure] at ih ⊢
        rw [ih, List.append_assoc]; rfl
def qtrail : Qr (List Int) := fun b p e => qlegs b (qnum 0 64 4 b p e).1 [] (qnum 0 64 4 b p e).2.1 (qnum 0 64 4 b p e).2.2
def qidl : Qr (List I16) := fun b p e => qids b (qnum 0 16 4 b p e).1 [] (qnum 0 16 4 b p e).2.1 (qnum 0 16 4 b p e).2.2
theorem br_trail : Br qtrail rtrail := by
  intro b p
  have a := br_in 0 64 4 (by decide) b p
  unfold rtrail Rd.bind qtrail
  rw [show rmany 64 = rin 0 64 4 from rmany_eq 64]
  rcases hr : rin 0 64 4 b p with e | ⟨n, q⟩
  · rw [hr] at a
    simp only at a ⊢
    exact ⟨a.1, by rw [qlegs_stk b _ _ _ _ (by rw [a.2]; exact a.1)]; exact a.2⟩
  · rw [hr] at a
    simp only at a ⊢
    rw [a]
    have h := qlegs_br b n [] q
    rcases hl : rlegs n b q with e | ⟨m, q2⟩ <;> (rw [hl] at h; exact h)
theorem br_idl : Br qidl ridl := by
  intro b p
  have a := br_in 0 16 4 (by decide) b p
  unfold ridl Rd.bind qidl
  rw [show rmany 16 = rin 0 16 4 from rmany_eq 16]
  rcases hr : rin 0 16 4 b p with e | ⟨n, q⟩
  · rw [hr] at a
    simp only at a ⊢
    exact ⟨a.1, by rw [qids_stk b _ _ _ _ (by rw [a.2]; exact a.1)]; exact a.2⟩
  · rw [hr] at a
    simp only at a ⊢
    rw [a]
    have h := qids_br b n [] q
    rcases hl : rids n b q with e | ⟨m, q2⟩ <;> (rw [hl] at h; exact h)
theorem stk_trail : Stk qtrail := fun b p e h => by
  unfold qtrail
  rw [qlegs_stk b _ _ _ _ (by rw [stk_num 0 64 4 b p e h]; exact h)]
  exact stk_num 0 64 4 b p e h
theorem stk_idl : Stk qidl := fun b p e h => by
  unfold qidl
  rw [qids_stk b _ _ _ _ (by rw [stk_num 0 16 4 b p e h]; exact h)]
  exact stk_num 0 16 4 b p e h
theorem br_idI : Br qid ridI := br_id fun b p e h => rid_ne h
end Go.Proofs
namespace Go.Proofs
open Go Go.SL
set_option maxRecDepth 100000
def Lt (b : List UInt8) (c : UInt8) (r : Rd (Frm → Frm)) : Prop := ∀ F rt st p, match r b p with
  | .error e => e ≠ 0 ∧ (qstep b ⟨F, rt, st, p, 0⟩ c).e = e
  | .ok (u, p') => ∃ rt' st', qstep b ⟨F, rt, st, p, 0⟩ c = ⟨u F, rt', st', p', 0⟩
theorem lt_of {α : Type} {b : List UInt8} {c : UInt8} {q : Qr α} {r : Rd α} (u : α → Frm → Frm) (hb : Br q r)
    (h : ∀ F rt st p, ∃ rt' st', qstep b ⟨F, rt, st, p, 0⟩ c = ⟨u (q b p 0).1 F, rt', st', (q b p 0).2.1, (q b p 0).2.2⟩) : Lt b c (Rd.map u r) := by
  intro F rt st p
  have a := hb b p
  obtain ⟨rt', st', h⟩ := h F rt st p
  simp only [Rd.map]
  rcases hr : r b p with e | ⟨x, p'⟩
  · rw [hr] at a
    simp only at a ⊢
    exact ⟨a.1, by rw [h]; exact a.2⟩
  · rw [hr] at a
    simp only at a ⊢
    refine ⟨rt', st', ?_⟩
    rw [h, a]
def Fo (b : List UInt8) (l : List UInt8) (r : Rd (Frm → Frm)) : Prop := ∀ F rt st p, match r b p with
  | .error e => e ≠ 0 ∧ (qall b l ⟨F, rt, st, p, 0⟩).e = e
  | .ok (u, p') => ∃ rt' st', qall b l ⟨F, rt, st, p, 0⟩ = ⟨u F, rt', st', p', 0⟩
theorem fo_one {b : List UInt8} {c : UInt8} {r : Rd (Frm → Frm)} (h : Lt b c r) : Fo b [c] r := h
theorem step_stk (b : List UInt8) (Q : Qs) (c : UInt8) (h : Q.e ≠ 0) : (qstep b Q c).e = Q.e := by
  unfold qstep
  (repeat' refine ite_P (fun X : Qs => X.e = Q.e) ?_ ?_)
  · exact stk_both stk_any stk_any b _ _ h
  · exact stk_both stk_any stk_any b _ _ h
  · exact stk_any b _ _ h
  · exact stk_both stk_id stk_any b _ _ h
  · exact stk_id b _ _ h
  · exact stk_id b _ _ h
  · exact stk_num _ _ _ b _ _ h
  · exact stk_both stk_id (stk_both stk_any (stk_both stk_id (stk_text 64))) b _ _ h
  · exact stk_both stk_id (stk_both stk_any stk_id) b _ _ h
  · exact stk_num _ _ _ b _ _ h
  · exact stk_num _ _ _ b _ _ h
  · exact stk_num _ _ _ b _ _ h
  · exact stk_text _ b _ _ h
  · exact stk_text _ b _ _ h
  · exact stk_trail b _ _ h
  · exact stk_idl b _ _ h
  · rfl
theorem all_stk (b : List UInt8) : ∀ (l : List UInt8) (Q : Qs), Q.e ≠ 0 → (qall b l Q).e = Q.e
  | [], _, _ => rfl
  | c :: l, Q, h => by
    show (qall b l (qstep b Q c)).e = Q.e
    have a := step_stk b Q c h
    rw [all_stk b l _ (by rw [a]; exact h), a]
theorem fo_cons {b : List UInt8} {c : UInt8} {l : List UInt8} {r s : Rd (Frm → Frm)} (h1 : Lt b c r) (h2 : Fo b l s) : Fo b (c :: l) (Rd.map (fun x F => x.2 (x.1 F)) (Rd.both r s)) := by
  intro F rt st p
  have a := h1 F rt st p
  show match Rd.map (fun x F => x.2 (x.1 F)) (Rd.both r s) b p with
    | .error e => e ≠ 0 ∧ (qall b l (qstep b ⟨F, rt, st, p, 0⟩ c)).e = e
    | .ok (u, p') => ∃ rt' st', qall b l (qstep b ⟨F, rt, st, p, 0⟩ c) = ⟨u F, rt', st', p', 0⟩
  simp only [Rd.map, Rd.both]
  rcases hr : r b p with e | ⟨x, p'⟩
  · rw [hr] at a
    simp only at a ⊢
    exact ⟨a.1, by rw [all_stk b l _ (by rw [a.2]; exact a.1)]; exact a.2⟩
  · rw [hr] at a
    simp only at a ⊢
    obtain ⟨rt', st', a⟩ := a
    rw [a]
    have a2 := h2 (x F) rt' st' p'
    rcases hs : s b p' with e | ⟨y, p2⟩
    · rw [hs] at a2; exact a2
    · rw [hs] at a2; exact a2
def u102 (x : Nat × Nat) (F : Frm) : Frm := { F with fi := x.1, fn := x.2 }
theorem l102 (b : List UInt8) : Lt b 102 (Rd.map u102 (Rd.both rnum rnum)) := lt_of u102 (br_both br_any br_any stk_any) fun F rt st p => ⟨_, _, rfl⟩
def u116 (x : Nat × Nat) (F : Frm) : Frm := { F with ti := x.1, tn := x.2 }
theorem l116 (b : List UInt8) : Lt b 116 (Rd.map u116 (Rd.both rnum rnum)) := lt_of u116 (br_both br_any br_any stk_any) fun F rt st p => ⟨_, _, rfl⟩
def u110 (x : Nat) (F : Frm) : Frm := { F with n := x }
theorem l110 (b : List UInt8) : Lt b 110 (Rd.map u110 (rnum)) := lt_of u110 (br_any) fun F rt st p => ⟨_, _, rfl⟩
def u112 (x : I16 × Nat) (F : Frm) : Frm := { F with who := x.1, pn := x.2 }
theorem l112 (b : List UInt8) : Lt b 112 (Rd.map u112 (Rd.both ridI rnum)) := lt_of u112 (br_both br_idI br_any stk_any) fun F rt st p => ⟨_, _, rfl⟩
def u97 (x : I16) (F : Frm) : Frm := { F with a := x }
theorem l97 (b : List UInt8) : Lt b 97 (Rd.map u97 (ridI)) := lt_of u97 (br_idI) fun F rt st p => ⟨_, _, rfl⟩
def u98 (x : I16) (F : Frm) : Frm := { F with b := x }
theorem l98 (b : List UInt8) : Lt b 98 (Rd.map u98 (ridI)) := lt_of u98 (br_idI) fun F rt st p => ⟨_, _, rfl⟩
def u100 (x : Nat) (F : Frm) : Frm := { F with toA := decide ((x : Int) = 1) }
theorem l100 (b : List UInt8) : Lt b 100 (Rd.map u100 (rin 0 1 2)) := lt_of u100 (br_in 0 1 2 (by decide)) fun F rt st p => ⟨_, _, rfl⟩
def u114 (x : List Int) (F : Frm) : Frm := { F with tr := x }
theorem l114 (b : List UInt8) : Lt b 114 (Rd.map u114 (rtrail)) := lt_of u114 (br_trail) fun F rt st p => ⟨_, _, rfl⟩
def u115 (x : List I16) (F : Frm) : Frm := { F with is := x }
theorem l115 (b : List UInt8) : Lt b 115 (Rd.map u115 (ridl)) := lt_of u115 (br_idl) fun F rt st p => ⟨_, _, rfl⟩
def u105 (x : I16 × Nat × I16 × List UInt8) (F : Frm) : Frm := { F with key := x.1, vn := x.2.1, vwho := x.2.2.1, val := x.2.2.2 }
theorem l105 (b : List UInt8) : Lt b 105 (Rd.map u105 (Rd.both ridI (Rd.both rnum (Rd.both ridI (rtext 64))))) := lt_of u105 (br_both br_idI (br_both br_any (br_both br_idI (br_text 64) (stk_text 64)) (stk_both stk_id (stk_text 64))) (stk_both stk_any (stk_both stk_id (stk_text 64)))) fun F rt st p => ⟨_, _, rfl⟩
def u107 (x : I16 × Nat × I16) (F : Frm) : Frm := { F with key := x.1, vn := x.2.1, vwho := x.2.2 }
theorem l107 (b : List UInt8) : Lt b 107 (Rd.map u107 (Rd.both ridI (Rd.both rnum ridI))) := lt_of u107 (br_both br_idI (br_both br_any br_idI stk_id) (stk_both stk_any stk_id)) fun F rt st p => ⟨_, _, rfl⟩
def u108 (x : Nat) (F : Frm) : Frm := { F with op := x }
theorem l108 (b : List UInt8) : Lt b 108 (Rd.map u108 (rin 0 3 2)) := lt_of u108 (br_in 0 3 2 (by decide)) fun F rt st p => ⟨_, _, rfl⟩
def u111 (x : Nat) (F : Frm) : Frm := { F with op := x }
theorem l111 (b : List UInt8) : Lt b 111 (Rd.map u111 (rin 1 4 2)) := lt_of u111 (br_in 1 4 2 (by decide)) fun F rt st p => ⟨_, _, rfl⟩
def u119 (x : Nat) (F : Frm) : Frm := { F with ttl := x }
theorem l119 (b : List UInt8) : Lt b 119 (Rd.map u119 (rin 0 64 2)) := lt_of u119 (br_in 0 64 2 (by decide)) fun F rt st p => ⟨_, _, rfl⟩
def u120 (x : List UInt8) (F : Frm) : Frm := { F with tx := x }
theorem l120 (b : List UInt8) : Lt b 120 (Rd.map u120 (rtext 4096)) := lt_of u120 (br_text 4096) fun F rt st p => ⟨_, _, rfl⟩
def u121 (x : List UInt8) (F : Frm) : Frm := { F with tx := x }
theorem l121 (b : List UInt8) : Lt b 121 (Rd.map u121 (rtext 64)) := lt_of u121 (br_text 64) fun F rt st p => ⟨_, _, rfl⟩
theorem both_assoc {α β γ : Type} (r : Rd α) (s : Rd β) (t : Rd γ) : Rd.both (Rd.both r s) t = Rd.map (fun x => ((x.1, x.2.1), x.2.2)) (Rd.both r (Rd.both s t)) := by
  funext b p
  simp only [Rd.map, Rd.both]
  rcases r b p with e | ⟨x, q⟩
  · rfl
  · simp only
    rcases s b q with e | ⟨y, q2⟩
    · rfl
    · simp only
      rcases t b q2 with e | ⟨z, q3⟩ <;> rfl
def Kd (b : List UInt8) (k : Nat) : Prop := ∀ p, match rbody k b p with
  | .error e => e ≠ 0 ∧ (qall b (forms k) ⟨kF k, false, false, p, 0⟩).e = e
  | .ok (F, p') => ∃ rt st, qall b (forms k) ⟨kF k, false, false, p, 0⟩ = ⟨F, rt, st, p', 0⟩
theorem kd_of {b : List UInt8} {k : Nat} {r : Rd (Frm → Frm)} (h : Fo b (forms k) r) (e : Rd.map (fun u => u (kF k)) r = rbody k) : Kd b k := by
  intro p
  have a := h (kF k) false false p
  rw [← e]
  simp only [Rd.map]
  rcases hr : r b p with e' | ⟨u, p'⟩
  · rw [hr] at a; exact a
  · rw [hr] at a; exact a
def qdcpb33 :=
  (And.intro (And.intro (And.intro @both_assoc @both_mapl) (And.intro @both_mapr @map_map)) (And.intro (And.intro @rflag_eq @ritem_eq) (And.intro @rpair_eq (And.intro @rpath_eq @rver_eq))))
theorem kd_1 (b : List UInt8) : Kd b 1 := by
  refine kd_of (fo_cons (l102 b) (fo_cons (l116 b) (fo_one (l97 b)))) ?_
  simp only [rbody, qdcpb33]
  rfl
theorem kd_2 (b : List UInt8) : Kd b 2 := by
  refine kd_of (fo_cons (l102 b) (fo_cons (l116 b) (fo_cons (l110 b) (fo_one (l120 b))))) ?_
  simp only [rbody, qdcpb33]
  rfl
theorem kd_3 (b : List UInt8) : Kd b 3 := by
  refine kd_of (fo_cons (l102 b) (fo_cons (l116 b) (fo_one (l110 b)))) ?_
  simp only [rbody, qdcpb33]
  rfl
theorem kd_4 (b : List UInt8) : Kd b 4 := by
  refine kd_of (fo_cons (l112 b) (fo_cons (l97 b) (fo_cons (l98 b) (fo_one (l114 b))))) ?_
  simp only [rbody, qdcpb33]
  rfl
theorem kd_5 (b : List UInt8) : Kd b 5 := by
  refine kd_of (fo_one (l112 b)) ?_
  simp only [rbody, qdcpb33]
  rfl
theorem kd_6 (b : List UInt8) : Kd b 6 := by
  refine kd_of (fo_cons (l112 b) (fo_one (l100 b))) ?_
  simp only [rbody, qdcpb33]
  rfl
theorem kd_7 (b : List UInt8) : Kd b 7 := by
  refine kd_of (fo_cons (l112 b) (fo_cons (l100 b) (fo_one (l115 b)))) ?_
  simp only [rbody, qdcpb33]
  rfl
theorem kd_8 (b : List UInt8) : Kd b 8 := by
  refine kd_of (fo_cons (l97 b) (fo_cons (l98 b) (fo_cons (l108 b) (fo_cons (l112 b) (fo_cons (l100 b) (fo_one (l114 b))))))) ?_
  simp only [rbody, qdcpb33, rsmall_eq 0 3 2 (by decide)]
  rfl
theorem kd_9 (b : List UInt8) : Kd b 9 := by
  refine kd_of (fo_cons (l97 b) (fo_one (l110 b))) ?_
  simp only [rbody, qdcpb33]
  rfl
theorem kd_10 (b : List UInt8) : Kd b 10 := by
  refine kd_of (fo_cons (l97 b) (fo_cons (l98 b) (fo_cons (l110 b) (fo_cons (l111 b) (fo_cons (l119 b) (fo_cons (l105 b) (fo_one (l121 b)))))))) ?_
  simp only [rbody, qdcpb33, rsmall_eq 1 4 2 (by decide), rsmall_eq 0 64 2 (by decide)]
  rfl
theorem kd_11 (b : List UInt8) : Kd b 11 := by
  refine kd_of (fo_cons (l112 b) (fo_cons (l100 b) (fo_one (l105 b)))) ?_
  simp only [rbody, qdcpb33]
  rfl
theorem kd_12 (b : List UInt8) : Kd b 12 := by
  refine kd_of (fo_cons (l112 b) (fo_cons (l100 b) (fo_one (l107 b)))) ?_
  simp only [rbody, qdcpb33]
  rfl
theorem kd_all (b : List UInt8) (k : Nat) (h1 : 1 ≤ k) (h2 : k ≤ 12) : Kd b k := by
  have : k = 1 ∨ k = 2 ∨ k = 3 ∨ k = 4 ∨ k = 5 ∨ k = 6 ∨ k = 7 ∨ k = 8 ∨ k = 9 ∨ k = 10 ∨ k = 11 ∨ k = 12 := by omega
  rcases this with rfl | rfl | rfl | rfl | rfl | rfl | rfl | rfl | rfl | rfl | rfl | rfl
  · exact kd_1 b
  · exact kd_2 b
  · exact kd_3 b
  · exact kd_4 b
  · exact kd_5 b
  · exact kd_6 b
  · exact kd_7 b
  · exact kd_8 b
  · exact kd_9 b
  · exact kd_10 b
  · exact kd_11 b
  · exact kd_12 b
theorem qdec_eq (b : List UInt8) : qfin b (qX b) = decode b := by
  have a := br_in 1 12 2 (by decide) b 0
  unfold rin at a
  rcases hr : rnum b 0 with e | ⟨k, q⟩
  · rw [hr] at a
    simp only at a
    have he : (q0 b).e = e := a.2
    have hX : (qX b).e = e := by unfold qX; rw [all_stk b _ _ (by rw [he]; exact a.1)]; exact he
    rw [decode_num hr]
    unfold qfin
    rw [hX, if_pos a.1]
  · rw [hr] at a
    simp only at a
    by_cases hk : k < 1 ∨ 12 < k
    · rw [if_pos hk] at a
      simp only at a
      have he : (q0 b).e = 2 := a.2
      have hX : (qX b).e = 2 := by unfold qX; rw [all_stk b _ _ (by rw [he]; decide)]; exact he
      have hB : rbody (min k 99) b q = .error 2 := by
        have : rbody (min k 99) = Rd.fail 2 := by
          generalize hm : min k 99 = m
          have : ¬ (1 ≤ m ∧ m ≤ 12) := by omega
          unfold rbody
          split <;> first | omega | rfl
        rw [this]
        rfl
      rw [decode_err hr hB]
      unfold qfin
      rw [hX, if_pos (by decide)]
    · rw [if_neg hk] at a
      simp only at a
      have h0 : q0 b = ⟨kF k, false, false, q, 0⟩ := by unfold q0; rw [a]
      have hf : formQ (q0 b).F.kind = forms k := by
        rw [h0]
        have : k = 1 ∨ k = 2 ∨ k = 3 ∨ k = 4 ∨ k = 5 ∨ k = 6 ∨ k = 7 ∨ k = 8 ∨ k = 9 ∨ k = 10 ∨ k = 11 ∨ k = 12 := by omega
        rcases this with rfl | rfl | rfl | rfl | rfl | rfl | rfl | rfl | rfl | rfl | rfl | rfl <;> rfl
      have hm : min k 99 = k := by omega
      have d := kd_all b k (by omega) (by omega) q
      have hXe : qX b = qall b (forms k) ⟨kF k, false, false, q, 0⟩ := by unfold qX; rw [hf, h0]
      rw [hXe]
      rcases hB : rbody k b q with e | ⟨F, q2⟩
      · rw [hB] at d
        simp only at d
        rw [decode_err hr (by rw [hm]; exact hB)]
        unfold qfin
        rw [d.2, if_pos d.1]
      · rw [hB] at d
        simp only at d
        obtain ⟨rt, st, d⟩ := d
        rw [decode_ok hr (by rw [hm]; exact hB), d]
        unfold qfin
        rw [if_neg (fun h => h rfl)]
theorem qdec_pure (b : List UInt8) (hb : b.length ≤ 140737488355328) : Pure Try.prog 118 [bsl b] (dres b) := by
  have h := qdec_calls b hb
  rw [qdec_eq] at h
  exact h
end Go.Proofs
