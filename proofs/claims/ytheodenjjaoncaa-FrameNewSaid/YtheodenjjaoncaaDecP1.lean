/- Contracts of functions that the laws reach, on abstract values, and what they need: no conditions but those that each theorem states. -/
import Derived.Test.YtheodenjjaoncaaWirP
import Derived.Test.YtheodenjjaoncaaSlY
import Derived.Test.YtheodenjjaoncaaHelQ
import Derived.Test.YtheodenjjaoncaaBodP
set_option linter.unusedVariables false
set_option linter.unusedSimpArgs false
set_option linter.defProp false
namespace Go.Proofs
open Go Go.SL
set_option maxRecDepth 100000
theorem mk37 (x : SV) : sMakeIface Try.prog 37 x = some ⟨.ifc 37 x, {}, True⟩ := by unfold sMakeIface; rw [tab.u37]
theorem shr63 (n : Nat) : (n : Int).fdiv (2 ^ min 63 IntKind.u64.bits) = ((n / 9223372036854775808 : Nat) : Int) := by
  rw [show (2 ^ min 63 IntKind.u64.bits : Int) = 9223372036854775808 from rfl, Int.fdiv_eq_ediv_of_nonneg _ (by decide)]
  rfl
def decp1c0 :=
  (aI (aI (aI @SKren_row (aI @after_mk @cellAt_succ)) (aI (aI @cellAt_zero @mergeL_done) (aI @mergeL_own @mergeL_row))) (aI (aI @renL_cons (aI @renL_flat @renL_nil)) (aI (aI @ren_tup @splice_0) (aI @splice_c @splice_s))))
def decp1c1 :=
  (aI (aI @beq_self_eq_true.{0} @brun_a) (aI @cond_false.{1} @cond_true.{1}))
def decp1b0 :=
  (aI (aI (aI decp1c0 (aI decp1c1 @tab.a3)) (aI @tab.a35 (aI @tab.a37 @tab.f251x0))) (aI (aI @tab.f251x1 (aI @tab.s3 @tab.s35)) (aI (aI @tab.s37 @tab.u2) (aI @tab.u36 @tab.u37))))
def decp1b1 :=
  (aI (aI (aI @List.length_cons.{0} @List.length_nil.{0}) (aI @Nat.zero_add @roL_in)) (aI (aI @roL_nil @roL_none) (aI @roL_row @ro_mk)))
def decp1b2 :=
  (aI (aI (aI decp1c1 (aI @tab.a3 @tab.a35)) (aI @tab.a37 (aI @tab.f251x0 @tab.f251x1))) (aI (aI @tab.s3 (aI @tab.s35 @tab.s37)) (aI @tab.u2 (aI @tab.u36 @tab.u37))))
def decp1b3 :=
  (aI (aI (aI (aI decp1c0 decp1c1) (aI @bwk_a @eq_self.{1})) (aI (aI @forall_const.{1} @implies_true.{0}) (aI @implies_true.{1} (aI @tab.a3 @tab.a35)))) (aI (aI (aI @tab.a37 @tab.f251x0) (aI @tab.f251x1 @tab.s3)) (aI (aI @tab.s35 @tab.s37) (aI @tab.u2 (aI @tab.u36 @tab.u37)))))
theorem num_ok (b : List UInt8) (p q : Int) (n : Nat) (hl : b.length < 4611686018427387904) (hp : -9223372036854775808 ≤ p ∧ p < 9223372036854775808) (h : getNum b p = (n, q, 0)) (hn : n < 9223372036854775808) :
    SCall Try.prog 153 [.ptr 0 0 0] [some (.row ⟨2, 1, true, 251, fun _ => [bsl b, .v (.int .i64 p)]⟩)]
      fun r L => r = .ret (.v (.int .i64 (n : Int))) ∧ L = [some (.row ⟨2, 1, true, 251, fun _ => [bsl b, .v (.int .i64 q)]⟩)] := by
  have hc := getNum_calls b p hl hp
  rw [h] at hc
  simp only [nres] at hc
  have hs : decide (0 < (n : Int).fdiv (2 ^ min 63 IntKind.u64.bits)) = false := decide_eq_false (by rw [shr63]; omega)
  have hw : IntKind.i64.wrap (n : Int) = (n : Int) := wrap_i64 _ (by omega)
  refine SCall.mk (fn := Try.f153) (by kernel_rfl) rfl (Nat.le_of_ble_eq_true (by kernel_rfl)) ?_
  refine goC ?_
  simp -dsimp +decide (disch := first | omega | simp +decide only [bdset_a, z16_length, bcells_one, bcells_length, bcells_flat]) only [decp1b0, ↓brun_b, envOf]
  refine Sem.draw' (by kernel_rfl) (.one 0 (.one 1 (.one 2 (.one 3 (.one 4 (.one 5 (.one 6 (.one 7 (.alt 8 (.one 9 (.one 10 (.one 11 (.one 12 (.one 13 (.one 14 (.one 15 .done))))))) .non))))))))) [] (by kernel_rfl) (fun G ff hG hf => ?_)
  simp +decide only [decp1b1] at hG ⊢
  simp -dsimp +decide (disch := first | omega | simp +decide only [bdset_a, z16_length, bcells_one, bcells_length, bcells_flat]) only [decp1b0, ↓brun_b, Nat.reduceBEq, hG]
  refine OpSem.callq cal.f42 (hc) rfl rfl rfl (by simp only [bflat_a]) (by simp only [bflat_a]) (dK rfl) ?_
  simp -dsimp +decide (disch := first | omega | simp +decide only [bdset_a, z16_length, bcells_one, bcells_length, bcells_flat]) only [decp1b0, ↓brun_b, Nat.reduceBEq]
  refine hf _ (Sem.go (k := 1000) ?_)
  simp +decide only [back_mk, backL_row, backL_nil, Nat.zero_add]
  simp -dsimp +decide (disch := first | omega | simp +decide only [bdset_a, z16_length, bcells_one, bcells_length, bcells_flat]) only [decp1b0, ↓brun_b, Nat.reduceBEq, Int.reduceToNat, hs, hw]
  refine SQ.runL (rs := [.tmp 2]) [0] _ _ rfl (And.intro rfl rfl) (by decide) rfl rfl ?_ ?_
  · simp -dsimp +decide (disch := first | omega | simp +decide only [bdset_a, z16_length, bcells_one, bcells_length, bcells_flat]) only [decp1b3]
  · simp -dsimp +decide (disch := first | omega | simp +decide only [bdset_a, z16_length, bcells_one, bcells_length, bcells_flat]) only [decp1b3, ↓brun_b]
def decp1b4 :=
  (aI (aI (aI decp1c0 (aI decp1c1 @mk37)) (aI (aI @tab.a3 @tab.a35) (aI @tab.a37 @tab.f251x0))) (aI (aI @tab.f251x1 (aI @tab.s3 @tab.s35)) (aI (aI @tab.s37 @tab.u2) (aI @tab.u36 @tab.u37))))
theorem num_big (b : List UInt8) (p q : Int) (n : Nat) (hl : b.length < 4611686018427387904) (hp : -9223372036854775808 ≤ p ∧ p < 9223372036854775808) (h : getNum b p = (n, q, 0)) (hn : 9223372036854775808 ≤ n) :
    SCall Try.prog 153 [.ptr 0 0 0] [some (.row ⟨2, 1, true, 251, fun _ => [bsl b, .v (.int .i64 p)]⟩)]
      fun r L => r = .pan (.ifc 37 (.v (.int .i64 2))) := by
  have hc := getNum_calls b p hl hp
  rw [h] at hc
  simp only [nres] at hc
  have hs : decide (0 < (n : Int).fdiv (2 ^ min 63 IntKind.u64.bits)) = true := decide_eq_true (by rw [shr63]; omega)
  refine SCall.mk (fn := Try.f153) (by kernel_rfl) rfl (Nat.le_of_ble_eq_true (by kernel_rfl)) ?_
  refine goC ?_
  simp -dsimp +decide (disch := first | omega | simp +decide only [bdset_a, z16_length, bcells_one, bcells_length, bcells_flat]) only [decp1b0, ↓brun_b, envOf]
  refine Sem.draw' (by kernel_rfl) (.one 0 (.one 1 (.one 2 (.one 3 (.one 4 (.one 5 (.one 6 (.one 7 (.alt 8 (.one 9 (.one 10 (.one 11 (.one 12 (.one 13 (.one 14 (.one 15 .done))))))) .non))))))))) [] (by kernel_rfl) (fun G ff hG hf => ?_)
  simp +decide only [decp1b1] at hG ⊢
  simp -dsimp +decide (disch := first | omega | simp +decide only [bdset_a, z16_length, bcells_one, bcells_length, bcells_flat]) only [decp1b0, ↓brun_b, Nat.reduceBEq, hG]
  refine OpSem.callq cal.f42 (hc) rfl rfl rfl (by simp only [bflat_a]) (by simp only [bflat_a]) (dK rfl) ?_
  simp -dsimp +decide (disch := first | omega | simp +decide only [bdset_a, z16_length, bcells_one, bcells_length, bcells_flat]) only [decp1b0, ↓brun_b, Nat.reduceBEq]
  refine hf _ (Sem.go (k := 1000) ?_)
  simp +decide only [back_mk, backL_row, backL_nil, Nat.zero_add]
  simp -dsimp +decide (disch := first | omega | simp +decide only [bdset_a, z16_length, bcells_one, bcells_length, bcells_flat]) only [decp1b4, ↓brun_b, Nat.reduceBEq, Int.reduceToNat, hs]
  refine SemOps.panic rfl rfl rfl ?_
  exact rfl
theorem num_pan (b : List UInt8) (p q e : Int) (n : Nat) (hl : b.length < 4611686018427387904) (hp : -9223372036854775808 ≤ p ∧ p < 9223372036854775808) (h : getNum b p = (n, q, e)) (he : e ≠ 0) :
    SCall Try.prog 153 [.ptr 0 0 0] [some (.row ⟨2, 1, true, 251, fun _ => [bsl b, .v (.int .i64 p)]⟩)]
      fun r L => r = .pan (.ifc 37 (.v (.int .i64 e))) := by
  have hc := getNum_calls b p hl hp
  rw [h] at hc
  simp only [nres] at hc
  have hs : decide (e = 0) = false := decide_eq_false he
  refine SCall.mk (fn := Try.f153) (by kernel_rfl) rfl (Nat.le_of_ble_eq_true (by kernel_rfl)) ?_
  refine goC ?_
  simp -dsimp +decide (disch := first | omega | simp +decide only [bdset_a, z16_length, bcells_one, bcells_length, bcells_flat]) only [decp1b0, ↓brun_b, envOf]
  refine Sem.draw' (by kernel_rfl) (.one 0 (.one 1 (.one 2 (.one 3 (.one 4 (.one 5 (.one 6 (.one 7 (.alt 8 (.one 9 (.one 10 (.one 11 (.one 12 (.one 13 (.one 14 (.one 15 .done))))))) .non))))))))) [] (by kernel_rfl) (fun G ff hG hf => ?_)
  simp +decide only [decp1b1] at hG ⊢
  simp -dsimp +decide (disch := first | omega | simp +decide only [bdset_a, z16_length, bcells_one, bcells_length, bcells_flat]) only [decp1b0, ↓brun_b, Nat.reduceBEq, hG]
  refine OpSem.callq cal.f42 (hc) rfl rfl rfl (by simp only [bflat_a]) (by simp only [bflat_a]) (dK rfl) ?_
  simp -dsimp +decide (disch := first | omega | simp +decide only [bdset_a, z16_length, bcells_one, bcells_length, bcells_flat]) only [decp1b0, ↓brun_b, Nat.reduceBEq]
  refine hf _ (Sem.go (k := 1000) ?_)
  simp +decide only [back_mk, backL_row, backL_nil, Nat.zero_add]
  simp -dsimp +decide (disch := first | omega | simp +decide only [bdset_a, z16_length, bcells_one, bcells_length, bcells_flat]) only [decp1b4, ↓brun_b, Nat.reduceBEq, hs]
  refine SemOps.panic rfl rfl rfl ?_
  exact rfl
end Go.Proofs
namespace Go.SL
open Go
def Rd (α : Type) := List UInt8 → Int → Except Int (α × Int)
def rnum : Rd Nat := fun b p => match getNum b p with
  | (n, q, e) => if e ≠ 0 then .error e else if 9223372036854775808 ≤ n then .error 2 else .ok (n, q)
end Go.SL
namespace Go.Proofs
open Go Go.SL
set_option maxRecDepth 100000
def Takes {α : Type} (f : FuncId) (more : List SV) (rd : Rd α) (enc : α → SV) : Prop :=
  ∀ (b : List UInt8) (p : Int), b.length ≤ 140737488355328 → I64 p →
    (∀ x q, rd b p = .ok (x, q) → SCall Try.prog f (.ptr 0 0 0 :: more) [some (.row ⟨2, 1, true, 251, fun _ => [bsl b, .v (.int .i64 p)]⟩)]
      fun r L => r = .ret (enc x) ∧ L = [some (.row ⟨2, 1, true, 251, fun _ => [bsl b, .v (.int .i64 q)]⟩)]) ∧
    (∀ e, rd b p = .error e → SCall Try.prog f (.ptr 0 0 0 :: more) [some (.row ⟨2, 1, true, 251, fun _ => [bsl b, .v (.int .i64 p)]⟩)] fun r L => r = .pan (.ifc 37 (.v (.int .i64 e))))
theorem rnum_ok {b : List UInt8} {p : Int} {x : Nat} {q : Int} (h : rnum b p = .ok (x, q)) : getNum b p = (x, q, 0) ∧ x < 9223372036854775808 := by
  unfold rnum at h
  rcases hg : getNum b p with ⟨n, q', e⟩
  rw [hg] at h
  simp only at h
  split at h
  · cases h
  · rename_i he
    split at h
    · cases h
    · rename_i hn
      injection h with h
      injection h with h1 h2
      have he : e = 0 := by omega
      rw [h1, h2, he]
      exact ⟨rfl, by omega⟩
theorem num_takes : Takes 153 [] rnum (fun n => .v (.int .i64 (n : Int))) := by
  intro b p hb hp
  refine ⟨fun x q h => ?_, fun e h => ?_⟩
  · obtain ⟨h1, h2⟩ := rnum_ok h
    exact num_ok b p q x (by omega) hp h1 h2
  · unfold rnum at h
    rcases hg : getNum b p with ⟨n, q, e'⟩
    rw [hg] at h
    simp only at h
    split at h
    · rename_i he
      injection h with h
      subst h
      exact num_pan b p q _ n (by omega) hp hg he
    · rename_i he
      have he : e' = 0 := by omega
      split at h
      · rename_i hn
        injection h with h
        subst h
        rw [he] at hg
        exact num_big b p q n (by omega) hp hg hn
      · cases h
def rflag : Rd Bool := fun b p => match rnum b p with
  | .error e => .error e
  | .ok (n, q) => if 1 < n then .error 2 else .ok (decide (n = 1), q)
def decp1b5 :=
  (aI (aI decp1c0 (aI decp1c1 @tab.a37)) (aI @tab.s37 (aI @tab.u2 @tab.u37)))
def decp1b6 :=
  (aI (aI (aI decp1c0 decp1c1) (aI @bwk_a (aI @eq_self.{1} @forall_const.{1}))) (aI (aI @implies_true.{0} (aI @implies_true.{1} @tab.a37)) (aI @tab.s37 (aI @tab.u2 @tab.u37))))
def decp1b7 :=
  (aI (aI decp1c1 @tab.a37) (aI @tab.s37 (aI @tab.u2 @tab.u37)))
def decp1b8 :=
  (aI (aI decp1c0 (aI decp1c1 @mk37)) (aI (aI @tab.a37 @tab.s37) (aI @tab.u2 @tab.u37)))
theorem flag_takes : Takes 159 [] rflag (fun n => .v (.bool n)) := by
  intro b p hb hp
  obtain ⟨n1, n2⟩ := num_takes b p hb hp
  refine ⟨fun x q h => ?_, fun e h => ?_⟩
  · unfold rflag at h
    rcases hg : rnum b p with e | ⟨n, q'⟩
    · rw [hg] at h; cases h
    · rw [hg] at h
      simp only at h
      split at h
      · cases h
      · rename_i hn
        injection h with h
        injection h with h1 h2
        subst h1 h2
        have hc := n1 n q' hg
        have hd : decide ((1 : Int) < (n : Int)) = false := decide_eq_false (by omega)
        have hd2 : decide ((n : Int) = 1) = decide (n = 1) := by congr 1; exact propext (by omega)
        refine SCall.mk (fn := Try.f159) (by kernel_rfl) rfl (Nat.le_of_ble_eq_true (by kernel_rfl)) ?_
        refine goC ?_
        simp -dsimp +decide (disch := first | omega | simp +decide only [bdset_a, z16_length, bcells_one, bcells_length, bcells_flat]) only [decp1b5, ↓brun_b, envOf, Nat.reduceBEq]
        refine SemOps.callw [0] cal.f153 (hc) rfl rfl rfl (by simp -dsimp +decide (disch := first | omega | simp +decide only [bdset_a, z16_length, bcells_one, bcells_length, bcells_flat]) only [decp1b6, ↓brun_b]) rfl (by simp -dsimp +decide (disch := first | omega | simp +decide only [bdset_a, z16_length, bcells_one, bcells_length, bcells_flat]) only [decp1b6]) (dK rfl) ?_
        refine goK ?_
        simp -dsimp +decide (disch := first | omega | simp +decide only [bdset_a, z16_length, bcells_one, bcells_length, bcells_flat]) only [decp1b5, ↓brun_b, Nat.reduceBEq, hd, hd2]
        refine SQ.runL (rs := [.tmp 2]) [0] _ _ rfl (And.intro rfl rfl) (by decide) rfl rfl ?_ ?_
        · simp -dsimp +decide (disch := first | omega | simp +decide only [bdset_a, z16_length, bcells_one, bcells_length, bcells_flat]) only [decp1b6]
        · simp -dsimp +decide (disch := first | omega | simp +decide only [bdset_a, z16_length, bcells_one, bcells_length, bcells_flat]) only [decp1b6, ↓brun_b]
  · unfold rflag at h
    rcases hg : rnum b p with e' | ⟨n, q'⟩
    · rw [hg] at h
      injection h with h
      subst h
      have hc := n2 _ hg
      refine SCall.mk (fn := Try.f159) (by kernel_rfl) rfl (Nat.le_of_ble_eq_true (by kernel_rfl)) ?_
      refine goC ?_
      simp -dsimp +decide (disch := first | omega | simp +decide only [bdset_a, z16_length, bcells_one, bcells_length, bcells_flat]) only [decp1b5, ↓brun_b, envOf, Nat.reduceBEq]
      refine SemOps.callPan [0] cal.f153 (hc) (fun _ => rfl) rfl rfl rfl (by simp -dsimp +decide (disch := first | omega | simp +decide only [bdset_a, z16_length, bcells_one, bcells_length, bcells_flat]) only [decp1b6, ↓brun_b]) rfl (by simp -dsimp +decide (disch := first | omega | simp +decide only [bdset_a, z16_length, bcells_one, bcells_length, bcells_flat]) only [decp1b6]) (by simp -dsimp +decide (disch := first | omega | simp +decide only [bdset_a, z16_length, bcells_one, bcells_length, bcells_flat]) only [decp1b7]) ?_
      exact fun s' => rfl
    · rw [hg] at h
      simp only at h
      split at h
      · rename_i hn
        injection h with h
        subst h
        have hc := n1 n q' hg
        have hd : decide ((1 : Int) < (n : Int)) = true := decide_eq_true (by omega)
        refine SCall.mk (fn := Try.f159) (by kernel_rfl) rfl (Nat.le_of_ble_eq_true (by kernel_rfl)) ?_
        refine goC ?_
        simp -dsimp +decide (disch := first | omega | simp +decide only [bdset_a, z16_length, bcells_one, bcells_length, bcells_flat]) only [decp1b5, ↓brun_b, envOf, Nat.reduceBEq]
        refine SemOps.callw [0] cal.f153 (hc) rfl rfl rfl (by simp -dsimp +decide (disch := first | omega | simp +decide only [bdset_a, z16_length, bcells_one, bcells_length, bcells_flat]) only [decp1b6, ↓brun_b]) rfl (by simp -dsimp +decide (disch := first | omega | simp +decide only [bdset_a, z16_length, bcells_one, bcells_length, bcells_flat]) only [decp1b6]) (dK rfl) ?_
        refine goK ?_
        simp -dsimp +decide (disch := first | omega | simp +decide only [bdset_a, z16_length, bcells_one, bcells_length, bcells_flat]) only [decp1b8, ↓brun_b, hd]
        refine SemOps.panic rfl rfl rfl ?_
        exact rfl
      · cases h
end Go.Proofs
namespace Go.Proofs
open Go Go.SL
set_option maxRecDepth 100000
def rid : Rd (List UInt8) := fun b p => match getID b p with
  | (x, q, e) => if e ≠ 0 then .error e else .ok (x, q)
def rtext (most : Int) : Rd (List UInt8) := fun b p => match getText b p most with
  | (x, q, e) => if e ≠ 0 then .error e else .ok (x, q)
def rmany (most : Int) : Rd Nat := fun b p => match rnum b p with
  | .error e => .error e
  | .ok (n, q) => if most < (n : Int) then .error 4 else .ok (n, q)
theorem many_takes (most : Int) : Takes 160 [.v (.int .i64 most)] (rmany most) (fun n => .v (.int .i64 (n : Int))) := by
  intro b p hb hp
  obtain ⟨n1, n2⟩ := num_takes b p hb hp
  refine ⟨fun x q h => ?_, fun e h => ?_⟩
  · unfold rmany at h
    rcases hg : rnum b p with e | ⟨n, q'⟩
    · rw [hg] at h; cases h
    · rw [hg] at h
      simp only at h
      split at h
      · cases h
      · rename_i hn
        injection h with h
        injection h with h1 h2
        subst h1 h2
        have hc := n1 n q' hg
        have hd : decide (most < (n : Int)) = false := decide_eq_false (by omega)
        refine SCall.mk (fn := Try.f160) (by kernel_rfl) rfl (Nat.le_of_ble_eq_true (by kernel_rfl)) ?_
        refine goC ?_
        simp -dsimp +decide (disch := first | omega | simp +decide only [bdset_a, z16_length, bcells_one, bcells_length, bcells_flat]) only [decp1b5, ↓brun_b, envOf, Nat.reduceBEq]
        refine SemOps.callw [0] cal.f153 (hc) rfl rfl rfl (by simp -dsimp +decide (disch := first | omega | simp +decide only [bdset_a, z16_length, bcells_one, bcells_length, bcells_flat]) only [decp1b6, ↓brun_b]) rfl (by simp -dsimp +decide (disch := first | omega | simp +decide only [bdset_a, z16_length, bcells_one, bcells_length, bcells_flat]) only [decp1b6]) (dK rfl) ?_
        refine goK ?_
        simp -dsimp +decide (disch := first | omega | simp +decide only [bdset_a, z16_length, bcells_one, bcells_length, bcells_flat]) only [decp1b5, ↓brun_b, Nat.reduceBEq, hd]
        refine SQ.runL (rs := [.tmp 4]) [0] _ _ rfl (And.intro rfl rfl) (by decide) rfl rfl ?_ ?_
        · simp -dsimp +decide (disch := first | omega | simp +decide only [bdset_a, z16_length, bcells_one, bcells_length, bcells_flat]) only [decp1b6]
        · simp -dsimp +decide (disch := first | omega | simp +decide only [bdset_a, z16_length, bcells_one, bcells_length, bcells_flat]) only [decp1b6, ↓brun_b]
  · unfold rmany at h
    rcases hg : rnum b p with e' | ⟨n, q'⟩
    · rw [hg] at h
      injection h with h
      subst h
      have hc := n2 _ hg
      refine SCall.mk (fn := Try.f160) (by kernel_rfl) rfl (Nat.le_of_ble_eq_true (by kernel_rfl)) ?_
      refine goC ?_
      simp -dsimp +decide (disch := first | omega | simp +decide only [bdset_a, z16_length, bcells_one, bcells_length, bcells_flat]) only [decp1b5, ↓brun_b, envOf, Nat.reduceBEq]
      refine SemOps.callPan [0] cal.f153 (hc) (fun _ => rfl) rfl rfl rfl (by simp -dsimp +decide (disch := first | omega | simp +decide only [bdset_a, z16_length, bcells_one, bcells_length, bcells_flat]) only [decp1b6, ↓brun_b]) rfl (by simp -dsimp +decide (disch := first | omega | simp +decide only [bdset_a, z16_length, bcells_one, bcells_length, bcells_flat]) only [decp1b6]) (by simp -dsimp +decide (disch := first | omega | simp +decide only [bdset_a, z16_length, bcells_one, bcells_length, bcells_flat]) only [decp1b7]) ?_
      exact fun s' => rfl
    · rw [hg] at h
      simp only at h
      split at h
      · rename_i hn
        injection h with h
        subst h
        have hc := n1 n q' hg
        have hd : decide (most < (n : Int)) = true := decide_eq_true (by omega)
        refine SCall.mk (fn := Try.f160) (by kernel_rfl) rfl (Nat.le_of_ble_eq_true (by kernel_rfl)) ?_
        refine goC ?_
        simp -dsimp +decide (disch := first | omega | simp +decide only [bdset_a, z16_length, bcells_one, bcells_length, bcells_flat]) only [decp1b5, ↓brun_b, envOf, Nat.reduceBEq]
        refine SemOps.callw [0] cal.f153 (hc) rfl rfl rfl (by simp -dsimp +decide (disch := first | omega | simp +decide only [bdset_a, z16_length, bcells_one, bcells_length, bcells_flat]) only [decp1b6, ↓brun_b]) rfl (by simp -dsimp +decide (disch := first | omega | simp +decide only [bdset_a, z16_length, bcells_one, bcells_length, bcells_flat]) only [decp1b6]) (dK rfl) ?_
        refine goK ?_
        simp -dsimp +decide (disch := first | omega | simp +decide only [bdset_a, z16_length, bcells_one, bcells_length, bcells_flat]) only [decp1b8, ↓brun_b, Nat.reduceBEq, hd]
        refine SemOps.panic rfl rfl rfl ?_
        exact rfl
      · cases h
def decp1b9 :=
  (aI (aI (aI decp1c0 (aI decp1c1 @alloc23)) (aI (aI @tab.a23 @tab.a3) (aI @tab.a35 @tab.a37))) (aI (aI @tab.f251x0 (aI @tab.f251x1 @tab.s23)) (aI (aI @tab.s3 @tab.s35) (aI @tab.s37 @tab.u37))))
def decp1b10 :=
  (aI (aI (aI decp1c1 (aI @tab.a23 @tab.a3)) (aI @tab.a35 (aI @tab.a37 @tab.f251x0))) (aI (aI @tab.f251x1 (aI @tab.s23 @tab.s3)) (aI @tab.s35 (aI @tab.s37 @tab.u37))))
def decp1b11 :=
  (aI (aI (aI (aI decp1c0 decp1c1) (aI @alloc23 @bcells_length)) (aI (aI @bcells_one @tab.a23) (aI @tab.a3 @tab.a35))) (aI (aI (aI @tab.a37 @tab.f251x0) (aI @tab.f251x1 @tab.s23)) (aI (aI @tab.s3 @tab.s35) (aI @tab.s37 @tab.u37))))
def decp1b12 :=
  (aI (aI (aI decp1c0 (aI decp1c1 @bcells_length)) (aI (aI @bcells_one @tab.a23) (aI @tab.a3 @tab.a35))) (aI (aI (aI @tab.a37 @tab.f251x0) (aI @tab.f251x1 @tab.s23)) (aI (aI @tab.s3 @tab.s35) (aI @tab.s37 @tab.u37))))
def decp1b13 :=
  (aI (aI (aI (aI decp1c0 decp1c1) (aI @bwk_a @eq_self.{1})) (aI (aI @forall_const.{1} @implies_true.{0}) (aI @implies_true.{1} (aI @tab.a23 @tab.a3)))) (aI (aI (aI @tab.a35 @tab.a37) (aI @tab.f251x0 @tab.f251x1)) (aI (aI @tab.s23 @tab.s3) (aI @tab.s35 (aI @tab.s37 @tab.u37)))))
def decp1b14 :=
  (aI (aI (aI decp1c0 (aI decp1c1 @mk37)) (aI (aI @tab.a23 @tab.a3) (aI @tab.a35 @tab.a37))) (aI (aI @tab.f251x0 (aI @tab.f251x1 @tab.s23)) (aI (aI @tab.s3 @tab.s35) (aI @tab.s37 @tab.u37))))
theorem id_takes : Takes 155 [] rid (fun x => .agg (bcells x)) := by
  intro b p hb hp
  have hc := getID_calls b p (by omega) hp
  refine ⟨fun x q h => ?_, fun e h => ?_⟩
  · unfold rid at h
    rcases hg : getID b p with ⟨y, q', e⟩
    rw [hg] at h hc
    simp only at h
    split at h
    · cases h
    · rename_i he
      injection h with h
      injection h with h1 h2
      obtain rfl : e = 0 := by omega
      subst h1 h2
      simp only [ires] at hc
      have hy : y.length = 16 := by have := getID_len b p; rw [hg] at this; exact this
      have hy2 : (bcells y).length = 16 := by rw [bcells_length, hy]
      have hz2 : (bcells z16).length = 16 := by rw [bcells_length, z16_length]
      have hy3 := bcells_one y
      have hy4 := bcells_flat y
      refine SCall.mk (fn := Try.f155) (by kernel_rfl) rfl (Nat.le_of_ble_eq_true (by kernel_rfl)) ?_
      refine goC ?_
      simp -dsimp +decide (disch := first | omega | simp +decide only [bdset_a, z16_length, bcells_one, bcells_length, bcells_flat]) only [decp1b9, ↓brun_b, envOf]
      refine Sem.draw' (by kernel_rfl) (.one 0 (.one 1 (.one 2 (.one 3 (.one 4 (.one 5 (.one 6 (.one 7 (.alt 8 (.one 9 (.one 10 (.one 11 (.one 12 (.alt 13 (.alt 14 (.one 15 (.one 16 .done)) .non) .non))))) (.alt 13 (.alt 8 (.one 9 (.one 10 (.one 11 (.one 12 (.alt 14 (.one 15 (.one 16 .done)) .non))))) .non) .non)))))))))) [] (by kernel_rfl) (fun G ff hG hf => ?_)
      simp +decide only [decp1b1, Nat.reduceAdd] at hG ⊢
      simp -dsimp +decide (disch := first | omega | simp +decide only [bdset_a, z16_length, bcells_one, bcells_length, bcells_flat]) only [decp1b9, ↓brun_b, Nat.reduceAdd, Nat.reduceBEq, hG]
      (repeat' refine And.intro ?_ ?_)
      all_goals
        refine OpSem.callq cal.f69 (hc) rfl rfl rfl (by simp only [bflat_a]) (by simp only [bflat_a, bcells_flat]) (dK rfl) ?_
        simp -dsimp +decide (disch := first | omega | simp +decide only [bdset_a, z16_length, bcells_one, bcells_length, bcells_flat]) only [decp1b11, ↓brun_b, Nat.reduceAdd, Nat.reduceBEq, bcells_splice _ _ z16_length hy]
        (repeat' refine And.intro ?_ ?_)
        all_goals
          refine hf _ (Sem.go (k := 1000) ?_)
          simp +decide only [back_mk, backL_row, backL_nil, Nat.zero_add, Nat.reduceAdd]
          simp -dsimp +decide (disch := first | omega | simp +decide only [bdset_a, z16_length, bcells_one, bcells_length, bcells_flat]) only [decp1b12, ↓brun_b, Nat.reduceAdd, Nat.reduceBEq, bcells_splice _ _ z16_length hy, bcells_part y hy]
          refine SQ.runL (rs := [.cell 2 23]) [0] _ _ rfl (And.intro rfl rfl) (by decide) rfl rfl ?_ ?_
          · simp -dsimp +decide (disch := first | omega | simp +decide only [bdset_a, z16_length, bcells_one, bcells_length, bcells_flat]) only [decp1b13, Nat.reduceAdd]
          · simp -dsimp +decide (disch := first | omega | simp +decide only [bdset_a, z16_length, bcells_one, bcells_length, bcells_flat]) only [decp1b13, ↓brun_b, Nat.reduceAdd, Nat.reduceBEq, bcells_part y hy]
  · unfold rid at h
    rcases hg : getID b p with ⟨y, q', e'⟩
    rw [hg] at h hc
    simp only at h
    split at h
    · rename_i he
      injection h with h
      subst h
      simp only [ires] at hc
      have hs : decide (e' = 0) = false := decide_eq_false he
      have hy : y.length = 16 := by have := getID_len b p; rw [hg] at this; exact this
      have hy2 : (bcells y).length = 16 := by rw [bcells_length, hy]
      have hz2 : (bcells z16).length = 16 := by rw [bcells_length, z16_length]
      have hy3 := bcells_one y
      have hy4 := bcells_flat y
      refine SCall.mk (fn := Try.f155) (by kernel_rfl) rfl (Nat.le_of_ble_eq_true (by kernel_rfl)) ?_
      refine goC ?_
      simp -dsimp +decide (disch := first | omega | simp +decide only [bdset_a, z16_length, bcells_one, bcells_length, bcells_flat]) only [decp1b9, ↓brun_b, envOf]
      refine Sem.draw' (by kernel_rfl) (.one 0 (.one 1 (.one 2 (.one 3 (.one 4 (.one 5 (.one 6 (.one 7 (.alt 8 (.one 9 (.one 10 (.one 11 (.one 12 (.alt 13 (.alt 14 (.one 15 (.one 16 .done)) .non) .non))))) (.alt 13 (.alt 8 (.one 9 (.one 10 (.one 11 (.one 12 (.alt 14 (.one 15 (.one 16 .done)) .non))))) .non) .non)))))))))) [] (by kernel_rfl) (fun G ff hG hf => ?_)
      simp +decide only [decp1b1, Nat.reduceAdd] at hG ⊢
      simp -dsimp +decide (disch := first | omega | simp +decide only [bdset_a, z16_length, bcells_one, bcells_length, bcells_flat]) only [decp1b9, ↓brun_b, Nat.reduceAdd, Nat.reduceBEq, hG]
      (repeat' refine And.intro ?_ ?_)
      all_goals
        refine OpSem.callq cal.f69 (hc) rfl rfl rfl (by simp only [bflat_a]) (by simp only [bflat_a, bcells_flat]) (dK rfl) ?_
        simp -dsimp +decide (disch := first | omega | simp +decide only [bdset_a, z16_length, bcells_one, bcells_length, bcells_flat]) only [decp1b11, ↓brun_b, Nat.reduceAdd, Nat.reduceBEq, bcells_splice _ _ z16_length hy]
        (repeat' refine And.intro ?_ ?_)
        all_goals
          refine hf _ (Sem.go (k := 1000) ?_)
          simp +decide only [back_mk, backL_row, backL_nil, Nat.zero_add, Nat.reduceAdd]
          simp -dsimp +decide (disch := first | omega | simp +decide only [bdset_a, z16_length, bcells_one, bcells_length, bcells_flat]) only [decp1b14, ↓brun_b, Nat.reduceAdd, Nat.reduceBEq, hs]
          refine SemOps.panic rfl rfl rfl ?_
          exact rfl
    · cases h
end Go.Proofs
namespace Go.Proofs
open Go Go.SL
set_option maxRecDepth 100000
end Go.Proofs
namespace Go.SL
open Go
def Rd.bind {α β : Type} (r : Rd α) (k : α → Rd β) : Rd β := fun b p => match r b p with
  | .error e => .error e
  | .ok (x, q) => k x b q
def Rd.pure {α : Type} (x : α) : Rd α := fun _ p => .ok (x, p)
theorem Rd.bind_ok {α β : Type} {r : Rd α} {k : α → Rd β} {b : List UInt8} {p : Int} {x : α} {q : Int} (h : r b p = .ok (x, q)) : Rd.bind r k b p = k x b q := by unfold Rd.bind; rw [h]
theorem Rd.bind_err {α β : Type} {r : Rd α} {k : α → Rd β} {b : List UInt8} {p e : Int} (h : r b p = .error e) : Rd.bind r k b p = .error e := by unfold Rd.bind; rw [h]
end Go.SL
namespace Go.Proofs
open Go Go.SL
set_option maxRecDepth 100000
def RdAt {α : Type} (rd : Rd α) : Prop := ∀ b p x q, rd b p = .ok (x, q) → 0 ≤ q ∧ q ≤ (b.length : Int)
theorem getNum_at (b : List UInt8) (p : Int) (n : Nat) (q : Int) (h : getNum b p = (n, q, 0)) : 0 ≤ q ∧ q ≤ (b.length : Int) := by
  unfold getNum at h
  split at h
  · injection h with _ h; injection h with _ h; cases h
  · split at h
    · injection h with _ h; injection h with _ h; cases h
    · simp only at h
      split at h
      · injection h with _ h; injection h with _ h; cases h
      · split at h
        · injection h with _ h; injection h with _ h; cases h
        · split at h
          · injection h with _ h; injection h with _ h; cases h
          · injection h with _ h; injection h with h _
            omega
theorem rnum_at : RdAt rnum := fun b p x q h => getNum_at b p x q (rnum_ok h).1
theorem rid_at : RdAt rid := fun b p x q h => by
  unfold rid at h
  rcases hg : getID b p with ⟨y, q', e⟩
  rw [hg] at h
  simp only at h
  split at h
  · cases h
  · rename_i he
    injection h with h
    injection h with h1 h2
    subst h1 h2
    unfold getID at hg
    split at hg
    · injection hg with _ hg; injection hg with _ hg; omega
    · split at hg
      · injection hg with _ hg; injection hg with _ hg; omega
      · injection hg with _ hg; injection hg with hg _; omega
theorem RdAt.i64 {α : Type} {rd : Rd α} (h : RdAt rd) {b : List UInt8} {p : Int} {x : α} {q : Int} (hb : b.length ≤ 140737488355328) (e : rd b p = .ok (x, q)) : I64 q := by
  have := h b p x q e
  exact ⟨by omega, by omega⟩
theorem b135n (a n : Int) : sBuild Try.prog 135 [(0, .v (.int .i64 a)), (1, .v (.int .i64 n))] = some ⟨.agg [.v (.int .i64 a), .v (.int .i64 n)], {}, True⟩ := by
  rw [sBuild_eq, tab.z135, tab.l135]; rfl
theorem al135n (N : Nat) : sAlloc Try.prog N 135 = some ⟨.ptr N 0 0, ⟨none, some (.row ⟨2, 1, true, 135, fun _ => [.v (.int .i64 0), .v (.int .i64 0)]⟩)⟩, True⟩ := sAlloc_eq N 135 _ tab.z135 rfl
def rpair : Rd (Nat × Nat) := Rd.bind rnum fun x => Rd.bind rnum fun y => Rd.pure (x, y)
def decp1b15 :=
  (aI (aI decp1c0 (aI decp1c1 @al135n)) (aI @tab.a135 (aI @tab.s135 @tab.u2)))
def decp1b16 :=
  (aI (aI (aI decp1c0 decp1c1) (aI @bwk_a (aI @eq_self.{1} @forall_const.{1}))) (aI (aI @implies_true.{0} @implies_true.{1}) (aI @tab.a135 (aI @tab.s135 @tab.u2))))
def decp1b17 :=
  (aI (aI decp1c1 @tab.a135) (aI @tab.s135 @tab.u2))
def decp1b18 :=
  (aI (aI decp1c0 decp1c1) (aI @tab.a135 (aI @tab.s135 @tab.u2)))
def decp1b19 :=
  (aI (aI decp1c0 (aI decp1c1 @b135n)) (aI (aI @sp02 @tab.a135) (aI @tab.s135 @tab.u2)))
def decp1b20 :=
  (aI (aI (aI decp1c0 decp1c1) (aI @bwk_a (aI @eq_self.{1} @forall_const.{1}))) (aI (aI @implies_true.{0} (aI @implies_true.{1} @sp02)) (aI @tab.a135 (aI @tab.s135 @tab.u2))))
theorem pair_takes : Takes 154 [] rpair (fun x => .agg [.v (.int .i64 (x.1 : Int)), .v (.int .i64 (x.2 : Int))]) := by
  intro b p hb hp
  obtain ⟨n1, n2⟩ := num_takes b p hb hp
  refine ⟨fun x q h => ?_, fun e h => ?_⟩
  · unfold rpair at h
    rcases hg : rnum b p with e | ⟨n, q'⟩
    · rw [Rd.bind_err hg] at h; cases h
    · rw [Rd.bind_ok hg] at h
      obtain ⟨m1, m2⟩ := num_takes b q' hb (rnum_at.i64 hb hg)
      rcases hg2 : rnum b q' with e | ⟨m, q2⟩
      · rw [Rd.bind_err hg2] at h; cases h
      · rw [Rd.bind_ok hg2] at h
        unfold Rd.pure at h
        injection h with h
        injection h with h1 h2
        subst h1 h2
        have hc := n1 n q' hg
        have hd := m1 m q2 hg2
        refine SCall.mk (fn := Try.f154) (by kernel_rfl) rfl (Nat.le_of_ble_eq_true (by kernel_rfl)) ?_
        refine goC ?_
        simp -dsimp +decide (disch := first | omega | simp +decide only [bdset_a, z16_length, bcells_one, bcells_length, bcells_flat]) only [decp1b15, ↓brun_b, envOf, Nat.reduceAdd, Nat.reduceBEq]
        refine SemOps.callw [0] cal.f153 (hc) rfl rfl rfl (by simp -dsimp +decide (disch := first | omega | simp +decide only [bdset_a, z16_length, bcells_one, bcells_length, bcells_flat]) only [decp1b16, ↓brun_b, Nat.reduceAdd]) rfl (by simp -dsimp +decide (disch := first | omega | simp +decide only [bdset_a, z16_length, bcells_one, bcells_length, bcells_flat]) only [decp1b16, Nat.reduceAdd]) (dK rfl) ?_
        refine goK ?_
        simp -dsimp +decide (disch := first | omega | simp +decide only [bdset_a, z16_length, bcells_one, bcells_length, bcells_flat]) only [decp1b18, ↓brun_b, Nat.reduceAdd, Nat.reduceBEq]
        refine SemOps.callw [0] cal.f153 (hd) rfl rfl rfl (by simp -dsimp +decide (disch := first | omega | simp +decide only [bdset_a, z16_length, bcells_one, bcells_length, bcells_flat]) only [decp1b16, ↓brun_b, Nat.reduceAdd]) rfl (by simp -dsimp +decide (disch := first | omega | simp +decide only [bdset_a, z16_length, bcells_one, bcells_length, bcells_flat]) only [decp1b16, Nat.reduceAdd]) (dK rfl) ?_
        refine goK ?_
        simp -dsimp +decide (disch := first | omega | simp +decide only [bdset_a, z16_length, bcells_one, bcells_length, bcells_flat]) only [decp1b19, ↓brun_b, Nat.reduceAdd, Nat.reduceBEq]
        refine SQ.runL (rs := [.cell 2 135]) [0] _ _ rfl (And.intro rfl rfl) (by decide) rfl rfl ?_ ?_
        · simp -dsimp +decide (disch := first | omega | simp +decide only [bdset_a, z16_length, bcells_one, bcells_length, bcells_flat]) only [decp1b16, Nat.reduceAdd]
        · simp -dsimp +decide (disch := first | omega | simp +decide only [bdset_a, z16_length, bcells_one, bcells_length, bcells_flat]) only [decp1b20, ↓brun_b, Nat.reduceAdd, Nat.reduceBEq]
  · unfold rpair at h
    rcases hg : rnum b p with e' | ⟨n, q'⟩
    · rw [Rd.bind_err hg] at h
      injection h with h
      subst h
      have hc := n2 _ hg
      refine SCall.mk (fn := Try.f154) (by kernel_rfl) rfl (Nat.le_of_ble_eq_true (by kernel_rfl)) ?_
      refine goC ?_
      simp -dsimp +decide (disch := first | omega | simp +decide only [bdset_a, z16_length, bcells_one, bcells_length, bcells_flat]) only [decp1b15, ↓brun_b, envOf, Nat.reduceAdd, Nat.reduceBEq]
      refine SemOps.callPan [0] cal.f153 (hc) (fun _ => rfl) rfl rfl rfl (by simp -dsimp +decide (disch := first | omega | simp +decide only [bdset_a, z16_length, bcells_one, bcells_length, bcells_flat]) only [decp1b16, ↓brun_b, Nat.reduceAdd]) rfl (by simp -dsimp +decide (disch := first | omega | simp +decide only [bdset_a, z16_length, bcells_one, bcells_length, bcells_flat]) only [decp1b16, Nat.reduceAdd]) (by simp -dsimp +decide (disch := first | omega | simp +decide only [bdset_a, z16_length, bcells_one, bcells_length, bcells_flat]) only [decp1b17]) ?_
      exact fun s' => rfl
    · rw [Rd.bind_ok hg] at h
      obtain ⟨m1, m2⟩ := num_takes b q' hb (rnum_at.i64 hb hg)
      rcases hg2 : rnum b q' with e' | ⟨m, q2⟩
      · rw [Rd.bind_err hg2] at h
        injection h with h
        subst h
        have hc := n1 n q' hg
        have hd := m2 _ hg2
        refine SCall.mk (fn := Try.f154) (by kernel_rfl) rfl (Nat.le_of_ble_eq_true (by kernel_rfl)) ?_
        refine goC ?_
        simp -dsimp +decide (disch := first | omega | simp +decide only [bdset_a, z16_length, bcells_one, bcells_length, bcells_flat]) only [decp1b15, ↓brun_b, envOf, Nat.reduceAdd, Nat.reduceBEq]
        refine SemOps.callw [0] cal.f153 (hc) rfl rfl rfl (by simp -dsimp +decide (disch := first | omega | simp +decide only [bdset_a, z16_length, bcells_one, bcells_length, bcells_flat]) only [decp1b16, ↓brun_b, Nat.reduceAdd]) rfl (by simp -dsimp +decide (disch := first | omega | simp +decide only [bdset_a, z16_length, bcells_one, bcells_length, bcells_flat]) only [decp1b16, Nat.reduceAdd]) (dK rfl) ?_
        refine goK ?_
        simp -dsimp +decide (disch := first | omega | simp +decide only [bdset_a, z16_length, bcells_one, bcells_length, bcells_flat]) only [decp1b18, ↓brun_b, Nat.reduceAdd, Nat.reduceBEq]
        refine SemOps.callPan [0] cal.f153 (hd) (fun _ => rfl) rfl rfl rfl (by simp -dsimp +decide (disch := first | omega | simp +decide only [bdset_a, z16_length, bcells_one, bcells_length, bcells_flat]) only [decp1b16, ↓brun_b, Nat.reduceAdd]) rfl (by simp -dsimp +decide (disch := first | omega | simp +decide only [bdset_a, z16_length, bcells_one, bcells_length, bcells_flat]) only [decp1b16, Nat.reduceAdd]) (by simp -dsimp +decide (disch := first | omega | simp +decide only [bdset_a, z16_length, bcells_one, bcells_length, bcells_flat]) only [decp1b17]) ?_
        exact fun s' => rfl
      · rw [Rd.bind_ok hg2] at h
        cases h
end Go.Proofs
namespace Go.Proofs
open Go Go.SL
set_option maxRecDepth 100000
def bI (l : List UInt8) (h : l.length = 16) : I16 := ⟨l.map fun c => (c.toNat : Int), by simp [h], by
  intro x hx
  rw [List.mem_map] at hx
  obtain ⟨c, _, rfl⟩ := hx
  have := c.toNat_lt
  omega⟩
theorem bI_c (l : List UInt8) (h : l.length = 16) : (bI l h).c = bcells l := by simp [bI, I16.c, bcells]
def ridI : Rd I16 := fun b p => match rid b p with
  | .error e => .error e
  | .ok (x, q) => if h : x.length = 16 then .ok (bI x h, q) else .error 2
theorem rid_len {b : List UInt8} {p : Int} {x : List UInt8} {q : Int} (h : rid b p = .ok (x, q)) : x.length = 16 := by
  unfold rid at h
  rcases hg : getID b p with ⟨y, q', e⟩
  rw [hg] at h
  simp only at h
  split at h
  · cases h
  · injection h with h
    injection h with h1 _
    rw [← h1]
    have := getID_len b p
    rw [hg] at this
    exact this
theorem idI_takes : Takes 155 [] ridI (fun x => .agg x.c) := by
  intro b p hb hp
  obtain ⟨n1, n2⟩ := id_takes b p hb hp
  refine ⟨fun x q h => ?_, fun e h => ?_⟩
  · unfold ridI at h
    rcases hg : rid b p with e | ⟨y, q'⟩
    · rw [hg] at h; cases h
    · rw [hg] at h
      simp only [dif_pos (rid_len hg)] at h
      injection h with h
      injection h with h1 h2
      subst h1 h2
      have := n1 y q' hg
      show SCall Try.prog 155 _ _ fun r L => r = .ret (.agg (bI y _).c) ∧ _
      rw [bI_c]
      exact this
  · unfold ridI at h
    rcases hg : rid b p with e' | ⟨y, q'⟩
    · rw [hg] at h
      injection h with h
      subst h
      exact n2 _ hg
    · rw [hg] at h
      simp only [dif_pos (rid_len hg)] at h
      cases h
theorem ridI_at : RdAt ridI := fun b p x q h => by
  unfold ridI at h
  rcases hg : rid b p with e | ⟨y, q'⟩
  · rw [hg] at h; cases h
  · rw [hg] at h
    simp only [dif_pos (rid_len hg)] at h
    injection h with h
    injection h with h1 h2
    rw [← h2]
    exact rid_at b p y q' hg
theorem al23n (N : Nat) : sAlloc Try.prog N 23 = some ⟨.ptr N 0 0, ⟨none, some (.row ⟨16, 1, true, 23, fun _ => I16.zero.c⟩)⟩, True⟩ := sAlloc_eq N 23 _ tab.z23 rfl
theorem al144n (N : Nat) : sAlloc Try.prog N 144 = some ⟨.ptr N 0 0, ⟨none, some (.row ⟨17, 1, true, 144, fun _ => I16.zero.c ++ [.v (.int .i64 0)]⟩)⟩, True⟩ := sAlloc_eq N 144 _ tab.z144 rfl
theorem i16n_set (a b : I16) : splice a.c 0 b.c = b.c := splice_all _ _ (by rw [I16.c_length, I16.c_length])
theorem p144_a (a b : I16) (v : SV) : splice (a.c ++ [v]) 0 b.c = b.c ++ [v] := by simp [splice, I16.c_length]
theorem p144_b (a : I16) (v u : SV) : splice (a.c ++ [v]) 16 [u] = a.c ++ [u] := by simp [splice, I16.c_length, List.drop_of_length_le]
def decp1c2 :=
  (aI (aI @cells_agg (aI @cells_int @fieldPlaceOf_eq)) (aI (aI @sagg_some @sfill1_some) (aI @sfill_cons @sfill_nil)))
def decp1b21 :=
  (aI (aI decp1c2 @p144_a) (aI @p144_b (aI @tab.f144x0 @tab.f144x1)))
theorem b144n (x : I16) (n : Int) : sBuild Try.prog 144 [(0, .agg x.c), (1, .v (.int .i64 n))] = some ⟨.agg (x.c ++ [.v (.int .i64 n)]), {}, True⟩ := by
  have e : sBuild Try.prog 144 [(0, .agg x.c), (1, .v (.int .i64 n))] = sagg (sfill (fieldPlaceOf Try.prog 144) (I16.zero.c ++ [.v (.int .i64 0)]) [(0, .agg x.c), (1, .v (.int .i64 n))]) := by
    rw [sBuild_eq, tab.z144, tab.l144]; rfl
  rw [e]
  simp (disch := simp [I16.c_length]) only [decp1b21, Option.map_some]
def rpath : Rd (I16 × Nat) := Rd.bind ridI fun x => Rd.bind rnum fun y => Rd.pure (x, y)
def decp1c3 :=
  (aI (aI @I16.c_length (aI @I16.flat @I16.one)) (aI @bcells_flat (aI @bdset_a @z16_length)))
def decp1b22 :=
  (aI decp1c3 (aI @bcells_length @bcells_one))
def decp1b23 :=
  (aI (aI (aI decp1c0 decp1c1) (aI @al144n (aI @tab.a144 @tab.a23))) (aI (aI @tab.f144x0 @tab.f144x1) (aI @tab.s144 (aI @tab.s23 @tab.u2))))
def decp1b24 :=
  (aI (aI (aI decp1c0 (aI decp1c1 @bwk_a)) (aI (aI @eq_self.{1} @forall_const.{1}) (aI @implies_true.{0} @implies_true.{1}))) (aI (aI @tab.a144 (aI @tab.a23 @tab.f144x0)) (aI (aI @tab.f144x1 @tab.s144) (aI @tab.s23 @tab.u2))))
def decp1b25 :=
  (aI (aI (aI decp1c1 @tab.a144) (aI @tab.a23 @tab.f144x0)) (aI (aI @tab.f144x1 @tab.s144) (aI @tab.s23 @tab.u2)))
def decp1b26 :=
  (aI (aI (aI decp1c0 (aI decp1c1 @I16.part)) (aI @al23n (aI @i16n_set @tab.a144))) (aI (aI @tab.a23 (aI @tab.f144x0 @tab.f144x1)) (aI @tab.s144 (aI @tab.s23 @tab.u2))))
def decp1b27 :=
  (aI (aI (aI decp1c0 (aI decp1c1 @I16.part)) (aI (aI @i16n_set @swScp_alt) (aI @swScp_non @swScp_pan))) (aI (aI @tab.a144 (aI @tab.a23 @tab.f144x0)) (aI (aI @tab.f144x1 @tab.s144) (aI @tab.s23 @tab.u2))))
theorem path_err (b : List UInt8) (p e : Int) (hb : b.length ≤ 140737488355328) (hp : I64 p) (h : rpath b p = .error e) :
    SCall Try.prog 157 [.ptr 0 0 0] [some (.row ⟨2, 1, true, 251, fun _ => [bsl b, .v (.int .i64 p)]⟩)] fun r L => r = .pan (.ifc 37 (.v (.int .i64 e))) := by
  obtain ⟨n1, n2⟩ := idI_takes b p hb hp
  unfold rpath at h
  rcases hg : ridI b p with e' | ⟨x, q'⟩
  · rw [Rd.bind_err hg] at h
    injection h with h
    subst h
    have hc := n2 _ hg
    refine SCall.mk (fn := Try.f157) (by kernel_rfl) rfl (Nat.le_of_ble_eq_true (by kernel_rfl)) ?_
    refine goC ?_
    simp -dsimp +decide (disch := first | omega | simp +decide only [decp1b22]) only [decp1b23, ↓brun_b, envOf, Nat.reduceAdd, Nat.reduceBEq]
    refine SemOps.callPan [0] cal.f155 (hc) (fun _ => rfl) rfl rfl rfl (by simp -dsimp +decide (disch := first | omega | simp +decide only [decp1b22]) only [decp1b24, ↓brun_b, Nat.reduceAdd]) rfl (by simp -dsimp +decide (disch := first | omega | simp +decide only [decp1b22]) only [decp1b24, Nat.reduceAdd]) (by simp -dsimp +decide (disch := first | omega | simp +decide only [decp1b22]) only [decp1b25]) ?_
    exact fun s' => rfl
  · rw [Rd.bind_ok hg] at h
    obtain ⟨m1, m2⟩ := num_takes b q' hb (ridI_at.i64 hb hg)
    rcases hg2 : rnum b q' with e' | ⟨m, q2⟩
    · rw [Rd.bind_err hg2] at h
      injection h with h
      subst h
      have hc := n1 x q' hg
      have hd := m2 _ hg2
      refine SCall.mk (fn := Try.f157) (by kernel_rfl) rfl (Nat.le_of_ble_eq_true (by kernel_rfl)) ?_
      refine goC ?_
      simp -dsimp +decide (disch := first | omega | simp +decide only [decp1b22]) only [decp1b23, ↓brun_b, envOf, Nat.reduceAdd, Nat.reduceBEq]
      refine SemOps.callw [0] cal.f155 (hc) rfl rfl rfl (by simp -dsimp +decide (disch := first | omega | simp +decide only [decp1b22]) only [decp1b24, ↓brun_b, Nat.reduceAdd]) rfl (by simp -dsimp +decide (disch := first | omega | simp +decide only [decp1b22]) only [decp1b24, Nat.reduceAdd]) (dK rfl) ?_
      refine goK ?_
      simp -dsimp +decide (disch := first | omega | simp +decide only [decp1b22]) only [decp1b26, ↓brun_b, Nat.reduceAdd, Nat.reduceBEq]
      refine Sem.drawPan (by kernel_rfl) (.alt 0 (.alt 1 (.pan 2 .non) .non) (.alt 1 (.alt 0 (.pan 2 .non) (.pan 2 .non)) .non)) (by kernel_rfl) ?_
      simp -dsimp +decide (disch := first | omega | simp +decide only [decp1b22]) only [decp1b27, ↓brun_b, Nat.reduceAdd, Nat.reduceBEq]
      (repeat' refine And.intro ?_ ?_)
      all_goals
        refine OpPan.call [0] cal.f153 (hd) (fun _ => rfl) rfl rfl (by simp -dsimp +decide (disch := first | omega | simp +decide only [decp1b22]) only [decp1b24, ↓brun_b, Nat.reduceAdd, Nat.reduceBEq]) rfl (by simp -dsimp +decide (disch := first | omega | simp +decide only [decp1b22]) only [decp1b24, Nat.reduceAdd]) ?_
        exact fun s' => rfl
    · rw [Rd.bind_ok hg2] at h
      cases h
theorem p144_all (a b : I16) (u v : SV) : splice (a.c ++ [u]) 0 (b.c ++ [v]) = b.c ++ [v] := splice_all _ _ (by simp [I16.c_length])
theorem p144_len (a : I16) (v : SV) : (a.c ++ [v]).length = 17 := by simp [I16.c_length]
theorem p144_flat (a : I16) (n : Int) : SV.flatL (a.c ++ [.v (.int .i64 n)]) = true := by simp [flatL_app, I16.flat, flatL_cons, flatL_nil, flat_v]
theorem p144_one (a : I16) (n : Int) : (a.c ++ [SV.v (.int .i64 n)]).all SV.one = true := by simp [List.all_append, I16.one, one_v, oneCell_int]
theorem p144_part (a : I16) (v : SV) : spart true (a.c ++ [v]) 0 17 = .agg (a.c ++ [v]) := by simp [spart, List.take_of_length_le, I16.c_length]
def decp1b28 :=
  (aI (aI (aI decp1c0 decp1c1) (aI @I16.part (aI @i16n_set @tab.a144))) (aI (aI @tab.a23 (aI @tab.f144x0 @tab.f144x1)) (aI @tab.s144 (aI @tab.s23 @tab.u2))))
def decp1b29 :=
  (aI (aI (aI decp1c0 (aI decp1c1 @I16.part)) (aI (aI @b144n @i16n_set) (aI @p144_all @p144_len))) (aI (aI (aI @p144_part @tab.a144) (aI @tab.a23 @tab.f144x0)) (aI (aI @tab.f144x1 @tab.s144) (aI @tab.s23 @tab.u2))))
def decp1b30 :=
  (aI (aI (aI decp1c0 decp1c1) (aI @p144_len (aI @p144_part @tab.a144))) (aI (aI @tab.a23 (aI @tab.f144x0 @tab.f144x1)) (aI @tab.s144 (aI @tab.s23 @tab.u2))))
def decp1b31 :=
  (aI (aI (aI decp1c0 (aI decp1c1 @bwk_a)) (aI (aI @eq_self.{1} @forall_const.{1}) (aI @implies_true.{0} @implies_true.{1}))) (aI (aI (aI @p144_part @tab.a144) (aI @tab.a23 @tab.f144x0)) (aI (aI @tab.f144x1 @tab.s144) (aI @tab.s23 @tab.u2))))
theorem path_takes : Takes 157 [] rpath (fun x => .agg (x.1.c ++ [.v (.int .i64 (x.2 : Int))])) := by
  intro b p hb hp
  refine ⟨fun x q h => ?_, fun e h => path_err b p e hb hp h⟩
  obtain ⟨n1, n2⟩ := idI_takes b p hb hp
  unfold rpath at h
  rcases hg : ridI b p with e' | ⟨x1, q'⟩
  · rw [Rd.bind_err hg] at h; cases h
  · rw [Rd.bind_ok hg] at h
    obtain ⟨m1, m2⟩ := num_takes b q' hb (ridI_at.i64 hb hg)
    rcases hg2 : rnum b q' with e' | ⟨m, q2⟩
    · rw [Rd.bind_err hg2] at h; cases h
    · rw [Rd.bind_ok hg2] at h
      unfold Rd.pure at h
      injection h with h
      injection h with h1 h2
      subst h1 h2
      have hc := n1 x1 q' hg
      have hd := m1 m q2 hg2
      have g1 := p144_flat x1 m
      have g2 := p144_one x1 m
      have g3 := p144_len x1 (.v (.int .i64 (m : Int)))
      have g4 := p144_len I16.zero (.v (.int .i64 0))
      refine SCall.mk (fn := Try.f157) (by kernel_rfl) rfl (Nat.le_of_ble_eq_true (by kernel_rfl)) ?_
      refine goC ?_
      simp -dsimp +decide (disch := first | omega | simp +decide only [decp1b22]) only [decp1b23, ↓brun_b, envOf, Nat.reduceAdd, Nat.reduceBEq]
      refine SemOps.callw [0] cal.f155 (hc) rfl rfl rfl (by simp -dsimp +decide (disch := first | omega | simp +decide only [decp1b22]) only [decp1b24, ↓brun_b, Nat.reduceAdd]) rfl (by simp -dsimp +decide (disch := first | omega | simp +decide only [decp1b22]) only [decp1b24, Nat.reduceAdd]) (dK rfl) ?_
      refine goK ?_
      simp -dsimp +decide (disch := first | omega | simp +decide only [decp1b22]) only [decp1b26, ↓brun_b, Nat.reduceAdd, Nat.reduceBEq]
      refine Sem.draw' (by kernel_rfl) (.one 0 (.one 1 (.alt 2 (.one 3 (.alt 4 .done .non)) .non))) [0, 1] (by kernel_rfl) (fun G ff hG hf => ?_)
      simp +decide only [decp1b1, Nat.reduceAdd] at hG ⊢
      simp -dsimp +decide (disch := first | omega | simp +decide only [decp1b22]) only [decp1b28, ↓brun_b, Nat.reduceAdd, Nat.reduceBEq, hG]
      (repeat' refine And.intro ?_ ?_)
      all_goals
        refine OpSem.callw [0] cal.f153 (hd) rfl rfl (by simp -dsimp +decide (disch := first | omega | simp +decide only [decp1b22]) only [decp1b24, ↓brun_b, Nat.reduceAdd]) rfl (by simp -dsimp +decide (disch := first | omega | simp +decide only [decp1b22]) only [decp1b24, Nat.reduceAdd]) (dK rfl) ?_
        simp -dsimp +decide (disch := first | omega | simp +decide only [decp1b22]) only [decp1b29, ↓brun_b, Nat.reduceAdd, Nat.reduceBEq]
        refine hf _ (Sem.go (k := 1000) ?_)
        simp +decide only [back_mk, backL_in, backL_row, backL_nil, Nat.zero_add, Nat.reduceAdd]
        simp -dsimp +decide (disch := first | omega | simp +decide only [decp1b22]) only [decp1b30]
        refine SQ.runL (rs := [.cell 2 144]) [0] _ _ rfl (And.intro rfl rfl) (by decide) rfl rfl ?_ ?_
        · simp -dsimp +decide (disch := first | omega | simp +decide only [decp1b22]) only [decp1b24, Nat.reduceAdd]
        · simp -dsimp +decide (disch := first | omega | simp +decide only [decp1b22]) only [decp1b31, ↓brun_b, Nat.reduceAdd, Nat.reduceBEq]
end Go.Proofs
namespace Go.Proofs
open Go Go.SL
set_option maxRecDepth 100000
theorem al147n (N : Nat) : sAlloc Try.prog N 147 = some ⟨.ptr N 0 0, ⟨none, some (.row ⟨17, 1, true, 147, fun _ => .v (.int .i64 0) :: I16.zero.c⟩)⟩, True⟩ := sAlloc_eq N 147 _ tab.z147 rfl
theorem p147_a (a : I16) (v u : SV) : splice (v :: a.c) 0 [u] = u :: a.c := by simp [splice]
theorem p147_b (a b : I16) (v : SV) : splice (v :: a.c) 1 b.c = v :: b.c := by simp [splice, I16.c_length, List.drop_of_length_le]
def decp1b32 :=
  (aI (aI decp1c2 @p147_a) (aI @p147_b (aI @tab.f147x0 @tab.f147x1)))
theorem b147n (x : I16) (n : Int) : sBuild Try.prog 147 [(0, .v (.int .i64 n)), (1, .agg x.c)] = some ⟨.agg (.v (.int .i64 n) :: x.c), {}, True⟩ := by
  have e : sBuild Try.prog 147 [(0, .v (.int .i64 n)), (1, .agg x.c)] = sagg (sfill (fieldPlaceOf Try.prog 147) (.v (.int .i64 0) :: I16.zero.c) [(0, .v (.int .i64 n)), (1, .agg x.c)]) := by
    rw [sBuild_eq, tab.z147, tab.l147]; rfl
  rw [e]
  simp (disch := simp [I16.c_length]) only [decp1b32, Option.map_some]
theorem p147_len (a : I16) (v : SV) : (v :: a.c).length = 17 := by simp [I16.c_length]
theorem p147_flat (a : I16) (n : Int) : SV.flatL (.v (.int .i64 n) :: a.c) = true := by simp [I16.flat, flatL_cons, flat_v]
theorem p147_one (a : I16) (n : Int) : (SV.v (.int .i64 n) :: a.c).all SV.one = true := by simp [I16.one, one_v, oneCell_int]
theorem p147_part (a : I16) (v : SV) : spart true (v :: a.c) 0 17 = .agg (v :: a.c) := by simp [spart, List.take_of_length_le, I16.c_length]
def rver : Rd (Nat × I16) := Rd.bind rnum fun x => Rd.bind ridI fun y => Rd.pure (x, y)
theorem rver_at : RdAt rver := fun b p x q h => by
  unfold rver at h
  rcases hg : rnum b p with e' | ⟨n, q'⟩
  · rw [Rd.bind_err hg] at h; cases h
  · rw [Rd.bind_ok hg] at h
    rcases hg2 : ridI b q' with e' | ⟨y, q2⟩
    · rw [Rd.bind_err hg2] at h; cases h
    · rw [Rd.bind_ok hg2] at h
      unfold Rd.pure at h
      injection h with h
      injection h with h1 h2
      rw [← h2]
      exact ridI_at b q' y q2 hg2
def decp1b33 :=
  (aI (aI (aI decp1c0 decp1c1) (aI @al147n (aI @tab.a147 @tab.a23))) (aI (aI @tab.f147x0 @tab.f147x1) (aI @tab.s147 (aI @tab.s23 @tab.u2))))
def decp1b34 :=
  (aI (aI (aI decp1c0 (aI decp1c1 @bwk_a)) (aI (aI @eq_self.{1} @forall_const.{1}) (aI @implies_true.{0} @implies_true.{1}))) (aI (aI @tab.a147 (aI @tab.a23 @tab.f147x0)) (aI (aI @tab.f147x1 @tab.s147) (aI @tab.s23 @tab.u2))))
def decp1b35 :=
  (aI (aI (aI decp1c1 @tab.a147) (aI @tab.a23 @tab.f147x0)) (aI (aI @tab.f147x1 @tab.s147) (aI @tab.s23 @tab.u2)))
def decp1b36 :=
  (aI (aI (aI decp1c0 decp1c1) (aI @tab.a147 @tab.a23)) (aI (aI @tab.f147x0 @tab.f147x1) (aI @tab.s147 (aI @tab.s23 @tab.u2))))
def decp1b37 :=
  (aI (aI (aI decp1c0 (aI decp1c1 @b147n)) (aI @i16n_set (aI @p147_len @p147_part))) (aI (aI @tab.a147 (aI @tab.a23 @tab.f147x0)) (aI (aI @tab.f147x1 @tab.s147) (aI @tab.s23 @tab.u2))))
def decp1b38 :=
  (aI (aI (aI (aI decp1c0 decp1c1) (aI @bwk_a @eq_self.{1})) (aI (aI @forall_const.{1} @i16n_set) (aI @implies_true.{0} @implies_true.{1}))) (aI (aI (aI @p147_part @tab.a147) (aI @tab.a23 @tab.f147x0)) (aI (aI @tab.f147x1 @tab.s147) (aI @tab.s23 @tab.u2))))
theorem ver_takes : Takes 162 [] rver (fun x => .agg (.v (.int .i64 (x.1 : Int)) :: x.2.c)) := by
  intro b p hb hp
  obtain ⟨n1, n2⟩ := num_takes b p hb hp
  refine ⟨fun x q h => ?_, fun e h => ?_⟩
  · unfold rver at h
    rcases hg : rnum b p with e' | ⟨n, q'⟩
    · rw [Rd.bind_err hg] at h; cases h
    · rw [Rd.bind_ok hg] at h
      obtain ⟨m1, m2⟩ := idI_takes b q' hb (rnum_at.i64 hb hg)
      rcases hg2 : ridI b q' with e' | ⟨y, q2⟩
      · rw [Rd.bind_err hg2] at h; cases h
      · rw [Rd.bind_ok hg2] at h
        unfold Rd.pure at h
        injection h with h
        injection h with h1 h2
        subst h1 h2
        have hc := n1 n q' hg
        have hd := m1 y q2 hg2
        have g1 := p147_flat y n
        have g2 := p147_one y n
        have g3 := p147_len y (.v (.int .i64 (n : Int)))
        have g4 := p147_len I16.zero (.v (.int .i64 0))
        refine SCall.mk (fn := Try.f162) (by kernel_rfl) rfl (Nat.le_of_ble_eq_true (by kernel_rfl)) ?_
        refine goC ?_
        simp -dsimp +decide (disch := first | omega | simp +decide only [decp1b22]) only [decp1b33, ↓brun_b, envOf, Nat.reduceAdd, Nat.reduceBEq]
        refine SemOps.callw [0] cal.f153 (hc) rfl rfl rfl (by simp -dsimp +decide (disch := first | omega | simp +decide only [decp1b22]) only [decp1b34, ↓brun_b, Nat.reduceAdd]) rfl (by simp -dsimp +decide (disch := first | omega | simp +decide only [decp1b22]) only [decp1b34, Nat.reduceAdd]) (dK rfl) ?_
        refine goK ?_
        simp -dsimp +decide (disch := first | omega | simp +decide only [decp1b22]) only [decp1b36, ↓brun_b, Nat.reduceAdd, Nat.reduceBEq]
        refine SemOps.callw [0] cal.f155 (hd) rfl rfl rfl (by simp -dsimp +decide (disch := first | omega | simp +decide only [decp1b22]) only [decp1b34, ↓brun_b, Nat.reduceAdd]) rfl (by simp -dsimp +decide (disch := first | omega | simp +decide only [decp1b22]) only [decp1b34, Nat.reduceAdd]) (dK rfl) ?_
        refine goK ?_
        simp -dsimp +decide (disch := first | omega | simp +decide only [decp1b22]) only [decp1b37, ↓brun_b, Nat.reduceAdd, Nat.reduceBEq]
        refine SQ.runL (rs := [.cell 2 147]) [0] _ _ rfl (And.intro rfl rfl) (by decide) rfl rfl ?_ ?_
        · simp -dsimp +decide (disch := first | omega | simp +decide only [decp1b22]) only [decp1b34, Nat.reduceAdd]
        · simp -dsimp +decide (disch := first | omega | simp +decide only [decp1b22]) only [decp1b38, ↓brun_b, Nat.reduceAdd, Nat.reduceBEq]
  · unfold rver at h
    rcases hg : rnum b p with e' | ⟨n, q'⟩
    · rw [Rd.bind_err hg] at h
      injection h with h
      subst h
      have hc := n2 _ hg
      refine SCall.mk (fn := Try.f162) (by kernel_rfl) rfl (Nat.le_of_ble_eq_true (by kernel_rfl)) ?_
      refine goC ?_
      simp -dsimp +decide (disch := first | omega | simp +decide only [decp1b22]) only [decp1b33, ↓brun_b, envOf, Nat.reduceAdd, Nat.reduceBEq]
      refine SemOps.callPan [0] cal.f153 (hc) (fun _ => rfl) rfl rfl rfl (by simp -dsimp +decide (disch := first | omega | simp +decide only [decp1b22]) only [decp1b34, ↓brun_b, Nat.reduceAdd]) rfl (by simp -dsimp +decide (disch := first | omega | simp +decide only [decp1b22]) only [decp1b34, Nat.reduceAdd]) (by simp -dsimp +decide (disch := first | omega | simp +decide only [decp1b22]) only [decp1b35]) ?_
      exact fun s' => rfl
    · rw [Rd.bind_ok hg] at h
      obtain ⟨m1, m2⟩ := idI_takes b q' hb (rnum_at.i64 hb hg)
      rcases hg2 : ridI b q' with e' | ⟨y, q2⟩
      · rw [Rd.bind_err hg2] at h
        injection h with h
        subst h
        have hc := n1 n q' hg
        have hd := m2 _ hg2
        refine SCall.mk (fn := Try.f162) (by kernel_rfl) rfl (Nat.le_of_ble_eq_true (by kernel_rfl)) ?_
        refine goC ?_
        simp -dsimp +decide (disch := first | omega | simp +decide only [decp1b22]) only [decp1b33, ↓brun_b, envOf, Nat.reduceAdd, Nat.reduceBEq]
        refine SemOps.callw [0] cal.f153 (hc) rfl rfl rfl (by simp -dsimp +decide (disch := first | omega | simp +decide only [decp1b22]) only [decp1b34, ↓brun_b, Nat.reduceAdd]) rfl (by simp -dsimp +decide (disch := first | omega | simp +decide only [decp1b22]) only [decp1b34, Nat.reduceAdd]) (dK rfl) ?_
        refine goK ?_
        simp -dsimp +decide (disch := first | omega | simp +decide only [decp1b22]) only [decp1b36, ↓brun_b, Nat.reduceAdd, Nat.reduceBEq]
        refine SemOps.callPan [0] cal.f155 (hd) (fun _ => rfl) rfl rfl rfl (by simp -dsimp +decide (disch := first | omega | simp +decide only [decp1b22]) only [decp1b34, ↓brun_b, Nat.reduceAdd]) rfl (by simp -dsimp +decide (disch := first | omega | simp +decide only [decp1b22]) only [decp1b34, Nat.reduceAdd]) (by simp -dsimp +decide (disch := first | omega | simp +decide only [decp1b22]) only [decp1b35]) ?_
        exact fun s' => rfl
      · rw [Rd.bind_ok hg2] at h
        cases h
end Go.Proofs
namespace Go.SL
open Go
def Rd.fail {α : Type} (e : Int) : Rd α := fun _ _ => .error e
def rlegs : Nat → Rd (List Int)
  | 0 => Rd.pure []
  | n + 1 => Rd.bind rnum fun x => if 6 ≤ x then Rd.fail 2 else Rd.bind (rlegs n) fun l => Rd.pure ((x : Int) :: l)
end Go.SL
namespace Go.Proofs
open Go Go.SL
set_option maxRecDepth 100000
def rtrail : Rd (List Int) := Rd.bind (rmany 64) fun n => rlegs n
def LegAt (n : Nat) (b : List UInt8) (p0 : Int) (k : Nat) (l : List Int) (q : Int) : Prop :=
  rlegs n b p0 = match rlegs (n - k) b q with
    | .error e => .error e
    | .ok (m, q') => .ok (l ++ m, q')
theorem legAt_err {n : Nat} {b : List UInt8} {p0 : Int} {k : Nat} {l : List Int} {q e : Int} (h : LegAt n b p0 k l q) (hk : k < n) (hg : rnum b q = .error e) : rlegs n b p0 = .error e := by
  obtain ⟨j, hj⟩ : ∃ j, n - k = j + 1 := ⟨n - k - 1, by omega⟩
  unfold LegAt at h
  rw [h, hj, rlegs, Rd.bind_err hg]
theorem legAt_big {n : Nat} {b : List UInt8} {p0 : Int} {k : Nat} {l : List Int} {q : Int} {x : Nat} {q' : Int} (h : LegAt n b p0 k l q) (hk : k < n) (hg : rnum b q = .ok (x, q')) (hx : 6 ≤ x) : rlegs n b p0 = .error 2 := by
  obtain ⟨j, hj⟩ : ∃ j, n - k = j + 1 := ⟨n - k - 1, by omega⟩
  unfold LegAt at h
  rw [h, hj, rlegs, Rd.bind_ok hg, if_pos hx]; rfl
theorem legAt_step {n : Nat} {b : List UInt8} {p0 : Int} {k : Nat} {l : List Int} {q : Int} {x : Nat} {q' : Int} (h : LegAt n b p0 k l q) (hk : k < n) (hg : rnum b q = .ok (x, q')) (hx : ¬ 6 ≤ x) : LegAt n b p0 (k + 1) (l ++ [(x : Int)]) q' := by
  obtain ⟨j, hj⟩ : ∃ j, n - k = j + 1 := ⟨n - k - 1, by omega⟩
  unfold LegAt at h ⊢
  rw [h, hj, rlegs, Rd.bind_ok hg, if_neg hx, show n - (k + 1) = j by omega]
  rcases hr : rlegs j b q' with e | ⟨m, q2⟩
  · rw [Rd.bind_err hr]
  · rw [Rd.bind_ok hr]
    simp [Rd.pure]
theorem legAt_end {n : Nat} {b : List UInt8} {p0 : Int} {l : List Int} {q : Int} (h : LegAt n b p0 n l q) : rlegs n b p0 = .ok (l, q) := by
  unfold LegAt at h
  rw [h, Nat.sub_self, rlegs, Rd.pure]
  simp
theorem bs145 (N : Nat) (x : Int) : sBuildSlice Try.prog N 145 1 [(0, .v (.int .i64 x))] = some ⟨.slc N 0 1, ⟨none, some (.row ⟨1, 1, true, 3, fun e => (([.v (.int .i64 x)] : List SV).drop (e * 1)).take 1⟩)⟩, True⟩ :=
  buildSlice_one tab.u145 tab.s3 tab.z3 (by decide) rfl (by decide) [.v (.int .i64 x)] _ rfl rfl rfl
theorem app_lrow {fz : Nat → Option SB} {ρ : Nat → Nat} (l : List Int) (x : Nat) (e : Nat) (he : e < l.length + 1) : EntL fz ρ (lrow (l ++ [(x : Int)]) e) (if e < l.length then lrow l e else (([.v (.int .i64 (x : Int))] : List SV).drop (e - l.length)).take 1) := by
  by_cases h : e < l.length
  · have e1 : lrow (l ++ [(x : Int)]) e = lrow l e := by simp [lrow, List.getD_eq_getElem?_getD, List.getElem?_append_left h]
    rw [if_pos h, e1]; exact EntL.self (lrow_flat _ _)
  · obtain rfl : e = l.length := by omega
    have e1 : lrow (l ++ [(x : Int)]) l.length = [.v (.int .i64 (x : Int))] := by simp [lrow, List.getD_eq_getElem?_getD]
    rw [if_neg h, Nat.sub_self, e1]
    exact EntL.self rfl
theorem lrow_row {fz : Nat → Option SB} {ρ : Nat → Nat} (l : List Int) (i : Nat) (r : List SV) (h : (lrows l)[i]? = some r) : EntL fz ρ r (lrow l (0 + i)) := by
  have hi : i < l.length := by
    rcases Nat.lt_or_ge i l.length with h2 | h2
    · exact h2
    · rw [List.getElem?_eq_none (by rw [lrows_length]; exact h2)] at h; cases h
  have e : lrow l (0 + i) = r := by
    rw [Nat.zero_add, ← lrows_at l i hi, List.getD_eq_getElem?_getD, h, Option.getD_some]
  rw [e]
  exact EntL.self (flatR_getD _ i r (lrows_flat l) h)
end Go.Proofs
namespace Go.Proofs
open Go Go.SL
set_option maxRecDepth 100000
def ritem : Rd (I16 × (Nat × I16) × List UInt8) := Rd.bind ridI fun k => Rd.bind rver fun v => Rd.bind (rtext 64) fun t => Rd.pure (k, v, t)
end Go.Proofs
namespace Go.Proofs
open Go Go.SL
set_option maxRecDepth 100000
def kF (k : Int) : Frm := { zFrm with kind := k }
def Rd.both {α β : Type} (r : Rd α) (s : Rd β) : Rd (α × β) := fun b p => match r b p with
  | .error e => .error e
  | .ok (x, q) => match s b q with
    | .error e => .error e
    | .ok (y, q') => .ok ((x, y), q')
def Rd.map {α β : Type} (f : α → β) (r : Rd α) : Rd β := fun b p => match r b p with
  | .error e => .error e
  | .ok (x, q) => .ok (f x, q)
def rids : Nat → Rd (List I16)
  | 0 => Rd.pure []
  | n + 1 => Rd.bind ridI fun x => Rd.bind (rids n) fun l => Rd.pure (x :: l)
def ridl : Rd (List I16) := Rd.bind (rmany 16) rids
def rsmall (lo hi : Nat) (e : Int) : Rd Nat := Rd.bind rnum fun x => if min x 99 < lo ∨ hi < min x 99 then Rd.fail e else Rd.pure (min x 99)
def fr1 (x : (Nat × Nat) × (Nat × Nat) × I16) : Frm := { kF 1 with fi := x.1.1, fn := x.1.2, ti := x.2.1.1, tn := x.2.1.2, a := x.2.2 }
def fr2 (x : (Nat × Nat) × (Nat × Nat) × Nat × List UInt8) : Frm := { kF 2 with fi := x.1.1, fn := x.1.2, ti := x.2.1.1, tn := x.2.1.2, n := x.2.2.1, tx := x.2.2.2 }
def fr3 (x : (Nat × Nat) × (Nat × Nat) × Nat) : Frm := { kF 3 with fi := x.1.1, fn := x.1.2, ti := x.2.1.1, tn := x.2.1.2, n := x.2.2 }
def fr4 (x : (I16 × Nat) × I16 × I16 × List Int) : Frm := { kF 4 with who := x.1.1, pn := x.1.2, a := x.2.1, b := x.2.2.1, tr := x.2.2.2 }
def fr5 (x : I16 × Nat) : Frm := { kF 5 with who := x.1, pn := x.2 }
def fr6 (x : (I16 × Nat) × Bool) : Frm := { kF 6 with who := x.1.1, pn := x.1.2, toA := x.2 }
def fr7 (x : (I16 × Nat) × Bool × List I16) : Frm := { kF 7 with who := x.1.1, pn := x.1.2, toA := x.2.1, is := x.2.2 }
def fr8 (x : I16 × I16 × Nat × (I16 × Nat) × Bool × List Int) : Frm := { kF 8 with a := x.1, b := x.2.1, op := x.2.2.1, who := x.2.2.2.1.1, pn := x.2.2.2.1.2, toA := x.2.2.2.2.1, tr := x.2.2.2.2.2 }
def fr9 (x : I16 × Nat) : Frm := { kF 9 with a := x.1, n := x.2 }
def fr10 (x : I16 × I16 × Nat × Nat × Nat × (I16 × (Nat × I16) × List UInt8) × List UInt8) : Frm :=
  { kF 10 with a := x.1, b := x.2.1, n := x.2.2.1, op := x.2.2.2.1, ttl := x.2.2.2.2.1, key := x.2.2.2.2.2.1.1, vn := x.2.2.2.2.2.1.2.1.1, vwho := x.2.2.2.2.2.1.2.1.2, val := x.2.2.2.2.2.1.2.2, tx := x.2.2.2.2.2.2 }
def fr11 (x : (I16 × Nat) × Bool × (I16 × (Nat × I16) × List UInt8)) : Frm := { kF 11 with who := x.1.1, pn := x.1.2, toA := x.2.1, key := x.2.2.1, vn := x.2.2.2.1.1, vwho := x.2.2.2.1.2, val := x.2.2.2.2 }
def fr12 (x : (I16 × Nat) × Bool × I16 × (Nat × I16)) : Frm := { kF 12 with who := x.1.1, pn := x.1.2, toA := x.2.1, key := x.2.2.1, vn := x.2.2.2.1, vwho := x.2.2.2.2 }
def rbody (k : Nat) : Rd Frm :=
  match k with
  | 1 => Rd.map fr1 (Rd.both rpair (Rd.both rpair ridI))
  | 2 => Rd.map fr2 (Rd.both rpair (Rd.both rpair (Rd.both rnum (rtext 4096))))
  | 3 => Rd.map fr3 (Rd.both rpair (Rd.both rpair rnum))
  | 4 => Rd.map fr4 (Rd.both rpath (Rd.both ridI (Rd.both ridI rtrail)))
  | 5 => Rd.map fr5 rpath
  | 6 => Rd.map fr6 (Rd.both rpath rflag)
  | 7 => Rd.map fr7 (Rd.both rpath (Rd.both rflag ridl))
  | 8 => Rd.map fr8 (Rd.both ridI (Rd.both ridI (Rd.both (rsmall 0 3 2) (Rd.both rpath (Rd.both rflag rtrail)))))
  | 9 => Rd.map fr9 (Rd.both ridI rnum)
  | 10 => Rd.map fr10 (Rd.both ridI (Rd.both ridI (Rd.both rnum (Rd.both (rsmall 1 4 2) (Rd.both (rsmall 0 64 2) (Rd.both ritem (rtext 64)))))))
  | 11 => Rd.map fr11 (Rd.both rpath (Rd.both rflag ritem))
  | 12 => Rd.map fr12 (Rd.both rpath (Rd.both rflag (Rd.both ridI rver)))
  | _ => Rd.fail 2
def rdec : Rd Frm := Rd.bind rnum fun k => rbody (min k 99)
def decode (b : List UInt8) : Frm × Int := match rdec b 0 with
  | .error e => (zFrm, e)
  | .ok (F, q) => if q < (b.length : Int) then (zFrm, 4) else (F, 0)
theorem decode_num {b : List UInt8} {e : Int} (h : rnum b 0 = .error e) : decode b = (zFrm, e) := by
  unfold decode rdec
  rw [Rd.bind_err h]
theorem decode_err {b : List UInt8} {k : Nat} {q e : Int} (h : rnum b 0 = .ok (k, q)) (h2 : rbody (min k 99) b q = .error e) : decode b = (zFrm, e) := by
  unfold decode rdec
  rw [Rd.bind_ok h, h2]
theorem decode_ok {b : List UInt8} {k : Nat} {q q2 : Int} {F : Frm} (h : rnum b 0 = .ok (k, q)) (h2 : rbody (min k 99) b q = .ok (F, q2)) : decode b = if q2 < (b.length : Int) then (zFrm, 4) else (F, 0) := by
  unfold decode rdec
  rw [Rd.bind_ok h, h2]
end Go.Proofs
namespace Go.Proofs
open Go Go.SL
set_option maxRecDepth 100000
theorem hit37 (v : SV) : sAssert Try.prog (.ifc 37 v) 37 false = some ⟨v, {}, True⟩ := by
  unfold sAssert
  rw [tab.u37]
  simp
def rowF (c : List SV) : Option SK := some (.row ⟨95, 1, true, 151, fun _ => c⟩)
def rowE (x : Int) : Option SK := some (.row ⟨1, 1, true, 37, fun _ => [.v (.int .i64 x)]⟩)
theorem splice_all95 (c : List SV) (hc : c.length = 95) (x : FC) : splice c 0 x.c = x.c := splice_all _ _ (by rw [hc, FC.c_length])
def decp1b39 :=
  (aI (aI decp1c3 (aI @FC.c_length @IC.c_length)) (aI @bcells_length (aI @bcells_one @zF.eq_1)))
def decp1c4 :=
  (aI (aI (aI @tab.a149 @tab.a151) (aI @tab.f149x0 @tab.f149x1)) (aI (aI @tab.f149x2 @tab.s149) (aI @tab.s151 @tab.u145)))
def decp1b40 :=
  (aI (aI (aI (aI decp1c0 (aI decp1c1 decp1c4)) (aI @FC.c_length (aI @build151z @sop_assert))) (aI (aI @tab.a135 (aI @tab.a144 @tab.a147)) (aI (aI @tab.a23 @tab.a3) (aI @tab.a35 @tab.a37)))) (aI (aI (aI @tab.f144x0 (aI @tab.f144x1 @tab.f147x0)) (aI (aI @tab.f147x1 @tab.s135) (aI @tab.s144 @tab.s147))) (aI (aI @tab.s23 (aI @tab.s3 @tab.s35)) (aI (aI @tab.s37 @tab.u2) (aI @tab.u20 @tab.u37)))))
def decp1b41 :=
  (aI (aI (aI (aI decp1c0 (aI decp1c1 decp1c4)) (aI (aI @FC.c_length @build151z) (aI @hit37 @sop_assert))) (aI (aI @tab.a135 (aI @tab.a144 @tab.a147)) (aI (aI @tab.a23 @tab.a3) (aI @tab.a35 @tab.a37)))) (aI (aI (aI @tab.f144x0 (aI @tab.f144x1 @tab.f147x0)) (aI (aI @tab.f147x1 @tab.s135) (aI @tab.s144 @tab.s147))) (aI (aI @tab.s23 (aI @tab.s3 @tab.s35)) (aI (aI @tab.s37 @tab.u2) (aI @tab.u20 @tab.u37)))))
def decp1b42 :=
  (aI (aI (aI (aI (aI decp1c0 decp1c1) (aI decp1c4 @FC.c_length)) (aI (aI @build151z @bwk_a) (aI @eq_self.{1} @forall_const.{1}))) (aI (aI (aI @implies_true.{0} @implies_true.{1}) (aI @sop_assert @tab.a135)) (aI (aI @tab.a144 @tab.a147) (aI @tab.a23 @tab.a3)))) (aI (aI (aI (aI @tab.a35 @tab.a37) (aI @tab.f144x0 @tab.f144x1)) (aI (aI @tab.f147x0 @tab.f147x1) (aI @tab.s135 @tab.s144))) (aI (aI (aI @tab.s147 @tab.s23) (aI @tab.s3 @tab.s35)) (aI (aI @tab.s37 @tab.u2) (aI @tab.u20 @tab.u37)))))
theorem catch_pan (c : List SV) (hc : c.length = 95) (x : SV) (e : Int) : DCall Try.prog 152 [.ptr 0 0 0, .ptr 1 0 0] [rowF c, some (.row ⟨1, 1, true, 37, fun _ => [x]⟩)] (some (.ifc 37 (.v (.int .i64 e)))) [rowF zF.c, rowE e] := by
  unfold rowF rowE
  refine DCall.mk (gn := Try.f152) (by kernel_rfl) rfl rfl rfl rfl (by decide) rfl rfl rfl (by decide) (by decide) ?_
  refine goC ?_
  simp -dsimp +decide (disch := first | omega | simp +decide only [decp1b39]) only [decp1b40, ↓brun_b, envOf, Nat.reduceAdd, recv]
  refine Sem.draw' (by kernel_rfl) (.one 0 (.one 1 (.one 2 (.alt 3 (.alt 4 .done .non) .non)))) [0, 1] (by kernel_rfl) (fun G ff hG hf => ?_)
  simp +decide only [decp1b1, Nat.reduceAdd] at hG ⊢
  simp -dsimp +decide (disch := first | omega | simp +decide only [decp1b39]) only [decp1b41, ↓brun_b, Nat.reduceAdd, Nat.reduceBEq, splice_all95 c hc]
  (repeat' refine And.intro ?_ ?_)
  all_goals
    refine hf _ (Sem.go (k := 1000) ?_)
    simp +decide only [back_mk, backL_in, backL_nil, Nat.zero_add, Nat.reduceAdd]
    simp -dsimp +decide (disch := first | omega | simp +decide only [decp1b39]) only [decp1b40]
    refine SQ.fin (SQ.runL (rs := []) [0, 1] (.tup []) _ rfl (And.intro ⟨.tup [], rfl⟩ rfl) (by decide) rfl rfl ?_ ?_)
    · simp -dsimp +decide (disch := first | omega | simp +decide only [decp1b39]) only [decp1b42, Nat.reduceAdd]
    · simp -dsimp +decide (disch := first | omega | simp +decide only [decp1b39]) only [decp1b42, ↓brun_b, Nat.reduceAdd]
      exact Ent.eq rfl
theorem entL_any {fz : Nat → Option SB} {ρ : Nat → Nat} : ∀ (n : Nat) (o : List SV), o.length = n → EntL fz ρ (List.replicate n .any) o
  | 0, o, h => by
    rw [List.length_eq_zero_iff] at h
    exact h
  | n + 1, [], h => by simp at h
  | n + 1, x :: o, h => ⟨x, o, rfl, trivial, entL_any n o (by simpa using h)⟩
def decp1b43 :=
  (aI (aI (aI (aI decp1c0 (aI decp1c1 decp1c4)) (aI (aI @FC.c_length @build151z) (aI @sBin_ii @sop_assert))) (aI (aI @tab.a135 (aI @tab.a144 @tab.a147)) (aI (aI @tab.a23 @tab.a3) (aI @tab.a35 @tab.a37)))) (aI (aI (aI @tab.f144x0 (aI @tab.f144x1 @tab.f147x0)) (aI (aI @tab.f147x1 @tab.s135) (aI @tab.s144 @tab.s147))) (aI (aI @tab.s23 (aI @tab.s3 @tab.s35)) (aI (aI @tab.s37 @tab.u2) (aI @tab.u20 @tab.u37)))))
theorem catch_ret (c d : List SV) : DCall Try.prog 152 [.ptr 0 0 0, .ptr 1 0 0] [some (.row ⟨95, 1, false, 151, fun _ => c⟩), some (.row ⟨1, 1, false, 37, fun _ => d⟩)] none [none, none] := by
  refine DCall.mk (gn := Try.f152) (by kernel_rfl) rfl rfl rfl rfl (by decide) rfl rfl rfl (by decide) (by decide) ?_
  refine goC ?_
  simp -dsimp +decide (disch := first | omega | simp +decide only [decp1b39]) only [decp1b43, ↓brun_b, envOf, Nat.reduceAdd, recv]
  refine SemOps.nn rfl rfl rfl tab.u20 (by simp -dsimp +decide (disch := first | omega | simp +decide only [decp1b39]) only [decp1b40, ↓brun_b]) (by simp -dsimp +decide (disch := first | omega | simp +decide only [decp1b39]) only [decp1b40]) ?_
  refine goK ?_
  simp -dsimp +decide (disch := first | omega | simp +decide only [decp1b39]) only [decp1b40, ↓brun_b]
  refine SQ.fin (SQ.runL (rs := []) [0, 1] (.tup []) _ rfl (And.intro ⟨.tup [], rfl⟩ rfl) (by decide) rfl rfl ?_ ?_)
  · simp -dsimp +decide (disch := first | omega | simp +decide only [decp1b39]) only [decp1b42, Nat.reduceAdd]
  · simp -dsimp +decide (disch := first | omega | simp +decide only [decp1b39]) only [decp1b42, ↓brun_b, Nat.reduceAdd]
    exact Ent.eq rfl
end Go.Proofs
namespace Go.Proofs
open Go Go.SL
set_option maxRecDepth 100000
theorem after_env (s : St) (l : List Nat) (Lc L' : List (Option SK)) : (s.after l Lc L').env = s.env := Eq.trans rfl rfl
theorem after_base (s : St) (l : List Nat) (Lc L' : List (Option SK)) : (s.after l Lc L').base = s.base := Eq.trans rfl rfl
def DR (b : List UInt8) : SE → List (Option SK) → Prop := fun r L => r = .ret (.tup [.agg (decode b).1.fc.c, .v (.int .i64 (decode b).2)]) ∧ L = [none, none]
theorem lt_getL {L : List (Option SK)} {i : Nat} {K : SK} (h : getL L i = some K) : i < L.length := (List.getElem?_eq_some_iff.1 (getL_some.1 h)).1
theorem getL_set_eq {L : List (Option SK)} {i : Nat} {K K' : SK} (h : getL L i = some K) : getL (L.set i (some K')) i = some K' := by
  rw [getL_some, List.getElem?_set_self (lt_getL h)]
theorem getL_set_ne {L : List (Option SK)} {i j : Nat} {x : Option SK} (h : j ≠ i) : getL (L.set j x) i = getL L i := by
  unfold getL
  rw [List.getElem?_set_ne h]
theorem part95 (c : List SV) (hc : c.length = 95) : spart true c 0 95 = .agg c := by simp [spart, List.take_of_length_le, hc]
def decp1b44 :=
  (aI (aI (aI (aI decp1c0 (aI decp1c1 decp1c4)) (aI @FC.c_length (aI @tab.a135 @tab.a144))) (aI (aI @tab.a147 (aI @tab.a23 @tab.a3)) (aI (aI @tab.a35 @tab.a37) (aI @tab.f144x0 @tab.f144x1)))) (aI (aI (aI @tab.f147x0 (aI @tab.f147x1 @tab.f251x0)) (aI @tab.f251x1 (aI @tab.s135 @tab.s144))) (aI (aI @tab.s147 (aI @tab.s23 @tab.s3)) (aI (aI @tab.s35 @tab.s37) (aI @tab.u2 @tab.u37)))))
theorem sq_dec {s : St} {b : List UInt8} {c : List SV} {e : Int} (hb : s.base = 2) (h0 : getL s.L 0 = some (.row ⟨95, 1, true, 151, fun _ => c⟩)) (hc : c.length = 95) (h1 : getL s.L 1 = some (.row ⟨1, 1, true, 37, fun _ => [.v (.int .i64 e)]⟩))
    (ha : lookup s.env 2 = .ptr 0 0 0) (hx : lookup s.env 3 = .ptr 1 0 0) (G : Frm) (hE : EntL (fzOf s.L [0, 1] [none, none]) (rho [0, 1] s.L.length) G.fc.c c) (hD : decode b = (G, e)) : SQ Try.prog Try.f117 (DR b) .ret s := by
  refine SQ.runL (rs := [.cell 2 151, .cell 3 37]) [0, 1] (.tup [.agg G.fc.c, .v (.int .i64 e)]) [none, none] rfl ?_ (by decide) (by rw [hb]; rfl) (by rw [hb]; rfl) trivial ?_
  · unfold DR
    rw [hD]
    exact And.intro rfl rfl
  · simp -dsimp +decide (disch := first | omega | simp +decide only [bdset_a, zF, FC.c_length, I16.c_length, I16.one, I16.flat, IC.c_length]) only [decp1b44, ↓brun_b, ha, hx, h0, h1, part95 c hc]
    exact ⟨_, rfl, _, _, rfl, ⟨_, rfl, hE⟩, _, _, rfl, rfl, rfl⟩
theorem dec_ret {s : St} {b : List UInt8} {c : List SV} {e : Int} (hb : s.base = 2) (h0 : getL s.L 0 = some (.row ⟨95, 1, true, 151, fun _ => c⟩)) (hc : c.length = 95) (h1 : getL s.L 1 = some (.row ⟨1, 1, true, 37, fun _ => [.v (.int .i64 e)]⟩))
    (ha : lookup s.env 2 = .ptr 0 0 0) (hx : lookup s.env 3 = .ptr 1 0 0) (G : Frm) (hE : EntL (fzOf s.L [0, 1] [none, none]) (rho [0, 1] s.L.length) G.fc.c c) (hD : decode b = (G, e)) : QD Try.prog Try.f117 152 [.ptr 0 0 0, .ptr 1 0 0] (DR b) .ret s := by
  have hL : mergeL (rho [0, 1] s.L.length) s.L [0, 1] [some (.row ⟨95, 1, false, 151, fun _ => List.replicate 95 .any⟩), some (.row ⟨1, 1, false, 37, fun _ => [.any]⟩)] [none, none] = s.L := by
    rw [mergeL_row, mergeL_row, mergeL_done, List.map_nil, List.append_nil]
  refine ⟨[0, 1], [.ptr 0 0 0, .ptr 1 0 0], [some (.row ⟨95, 1, false, 151, fun _ => List.replicate 95 .any⟩), some (.row ⟨1, 1, false, 37, fun _ => [.any]⟩)], none, [none, none], EntL.eq rfl, by decide, ?_, trivial, catch_ret _ _, ?_⟩
  · refine ⟨?_, ?_, trivial⟩
    · rw [h0]
      exact ⟨rfl, rfl, rfl, fun _ => rfl, fun _ _ => entL_any 95 c hc⟩
    · rw [h1]
      exact ⟨rfl, rfl, rfl, fun _ => rfl, fun _ _ => entL_any 1 _ rfl⟩
  · have h2 : s.after [0, 1] [some (.row ⟨95, 1, false, 151, fun _ => List.replicate 95 .any⟩), some (.row ⟨1, 1, false, 37, fun _ => [.any]⟩)] [none, none] = s := by
      unfold St.after
      rw [hL]
    rw [h2]
    exact sq_dec hb h0 hc h1 ha hx G hE hD
theorem dec_pan {s : St} {b : List UInt8} {c : List SV} {x : SV} {e : Int} (hb : s.base = 2) (h0 : getL s.L 0 = some (.row ⟨95, 1, true, 151, fun _ => c⟩)) (hc : c.length = 95) (h1 : getL s.L 1 = some (.row ⟨1, 1, true, 37, fun _ => [x]⟩))
    (ha : lookup s.env 2 = .ptr 0 0 0) (hx : lookup s.env 3 = .ptr 1 0 0) (hD : decode b = (zFrm, e)) : QD Try.prog Try.f117 152 [.ptr 0 0 0, .ptr 1 0 0] (DR b) (.panic (.ifc 37 (.v (.int .i64 e)))) s := by
  have hL : mergeL (rho [0, 1] s.L.length) s.L [0, 1] [rowF (List.replicate 95 .any), some (.row ⟨1, 1, true, 37, fun _ => [.any]⟩)] [rowF zF.c, rowE e] = (s.L.set 0 (rowF zF.c)).set 1 (rowE e) := by
    unfold rowF rowE
    rw [mergeL_own, mergeL_own, mergeL_done, List.map_nil, List.append_nil]
    have hz : SV.renL (rho [0, 1] s.L.length) zF.c = zF.c := renL_flat _ _ (by simp +decide only [])
    simp only [Option.map_some, SKren_row, hz]
    rfl
  refine ⟨[0, 1], [.ptr 0 0 0, .ptr 1 0 0], [rowF (List.replicate 95 .any), some (.row ⟨1, 1, true, 37, fun _ => [.any]⟩)], some (.ifc 37 (.v (.int .i64 e))), [rowF zF.c, rowE e], EntL.eq rfl, by decide, ?_, Ent.eq rfl, catch_pan _ (by simp) _ _, ?_⟩
  · refine ⟨?_, ?_, trivial⟩
    · rw [h0]
      exact ⟨rfl, rfl, rfl, fun _ => rfl, fun _ _ => entL_any 95 c hc⟩
    · rw [h1]
      exact ⟨rfl, rfl, rfl, fun _ => rfl, fun _ _ => entL_any 1 _ rfl⟩
  · refine sq_dec (c := zF.c) (by rw [after_base]; exact hb) ?_ (FC.c_length _) ?_ (by rw [after_env]; exact ha) (by rw [after_env]; exact hx) zFrm zF_ent hD
    · show getL (mergeL _ _ _ _ _) 0 = _
      rw [hL, getL_set_ne (by decide)]
      exact getL_set_eq h0
    · show getL (mergeL _ _ _ _ _) 1 = _
      rw [hL]
      exact getL_set_eq (by rw [getL_set_ne (by decide)]; exact h1)
theorem dec_panL {s : St} {b : List UInt8} {c : List SV} {x : SV} {e : Int} {l : List Nat} {Lc : List (Option SK)} (hl : 0 ∉ l ∧ 1 ∉ l) (hb : s.base = 2) (h0 : getL s.L 0 = some (.row ⟨95, 1, true, 151, fun _ => c⟩)) (hc : c.length = 95) (h1 : getL s.L 1 = some (.row ⟨1, 1, true, 37, fun _ => [x]⟩))
    (ha : lookup s.env 2 = .ptr 0 0 0) (hx : lookup s.env 3 = .ptr 1 0 0) (hD : decode b = (zFrm, e)) : ∀ L', QD Try.prog Try.f117 152 [.ptr 0 0 0, .ptr 1 0 0] (DR b) (.panic (.ifc 37 (.v (.int .i64 e)))) (s.after l Lc L') :=
  fun L' => dec_pan (by rw [after_base]; exact hb) (getL_merge _ _ _ _ _ _ _ hl.1 h0) hc (getL_merge _ _ _ _ _ _ _ hl.2 h1) (by rw [after_env]; exact ha) (by rw [after_env]; exact hx) hD
end Go.Proofs
namespace Go.Proofs
open Go Go.SL
set_option maxRecDepth 100000
theorem al37 (N : Nat) : sAlloc Try.prog N 37 = some ⟨.ptr N 0 0, ⟨none, some (.row ⟨1, 1, true, 37, fun _ => [.v (.int .i64 0)]⟩)⟩, True⟩ := sAlloc_eq N 37 _ tab.z37 rfl
theorem b251 (b : List UInt8) : sBuild Try.prog 251 [(0, bsl b)] = some ⟨.agg [bsl b, .v (.int .i64 0)], {}, True⟩ := by
  rw [sBuild_eq, tab.z251, tab.l251]; rfl
theorem RdAt.bind {α β : Type} {r : Rd α} {k : α → Rd β} (h : ∀ x, RdAt (k x)) : RdAt (Rd.bind r k) := fun b p x q e => by
  rcases hg : r b p with e' | ⟨y, q'⟩
  · rw [Rd.bind_err hg] at e; cases e
  · rw [Rd.bind_ok hg] at e
    exact h y b q' x q e
theorem RdAt.map {α β : Type} {r : Rd α} {f : α → β} (h : RdAt r) : RdAt (Rd.bind r fun x => Rd.pure (f x)) := fun b p x q e => by
  rcases hg : r b p with e' | ⟨y, q'⟩
  · rw [Rd.bind_err hg] at e; cases e
  · rw [Rd.bind_ok hg] at e
    unfold Rd.pure at e
    injection e with e
    injection e with _ e
    rw [← e]
    exact h b p y q' hg
theorem rpair_at : RdAt rpair := RdAt.bind fun x => RdAt.map rnum_at
theorem rpath_at : RdAt rpath := RdAt.bind fun x => RdAt.map rnum_at
theorem rflag_at : RdAt rflag := fun b p x q e => by
  unfold rflag at e
  rcases hg : rnum b p with e' | ⟨y, q'⟩
  · rw [hg] at e; cases e
  · rw [hg] at e
    simp only at e
    split at e
    · cases e
    · injection e with e
      injection e with _ e
      rw [← e]
      exact rnum_at b p y q' hg
theorem rtext_at (most : Int) : RdAt (rtext most) := fun b p x q e => by
  unfold rtext getText at e
  rcases hg : getNum b p with ⟨n, q', e'⟩
  rw [hg] at e
  simp only at e
  by_cases he : e' = 0
  · subst he
    have := getNum_at b p n q' hg
    simp only [ne_eq, not_true_eq_false, if_false] at e
    by_cases h1 : most < 0 ∨ most < (n : Int)
    · rw [if_pos h1] at e; simp at e
    · rw [if_neg h1] at e
      by_cases h2 : (b.length : Int) - q' < (n : Int)
      · rw [if_pos h2] at e; simp at e
      · rw [if_neg h2] at e
        simp only [not_true_eq_false, if_false] at e
        injection e with e
        injection e with _ e
        omega
  · simp [he] at e
theorem ritem_at : RdAt ritem := RdAt.bind fun x => RdAt.bind fun y => RdAt.map (rtext_at 64)
theorem bsl_flat (t : List UInt8) : (bsl t).flat = true := by simp only [bsl, flat_rsl, flatR_brows]
theorem ent_nil {fz : Nat → Option SB} {ρ : Nat → Nat} (z : Nat) : Ent fz ρ (.rsl z []) (.v (.slice none 0 0)) := .inr (.inr ⟨rfl, rfl⟩)
theorem lsl_flat (t : List Int) : (SV.rsl 1 (lrows t)).flat = true := by simp only [flat_rsl, lrows_flat]
theorem dec_call {α : Type} {f : FuncId} {more : List SV} {rd : Rd α} {enc : α → SV} {b : List UInt8} {p : Int} (ht : (∀ x q, rd b p = .ok (x, q) → SCall Try.prog f (.ptr 0 0 0 :: more) [some (.row ⟨2, 1, true, 251, fun _ => [bsl b, .v (.int .i64 p)]⟩)]
      fun r L => r = .ret (enc x) ∧ L = [some (.row ⟨2, 1, true, 251, fun _ => [bsl b, .v (.int .i64 q)]⟩)]) ∧
    (∀ e, rd b p = .error e → SCall Try.prog f (.ptr 0 0 0 :: more) [some (.row ⟨2, 1, true, 251, fun _ => [bsl b, .v (.int .i64 p)]⟩)] fun r L => r = .pan (.ifc 37 (.v (.int .i64 e)))))
    (hcal : Cal Try.prog f) {s : St} {K : List It} {all rest : List Oper} {op : Oper} {fo : Operand} {argos : Array Operand} {ats : Array TypeId} {c : List SV} {x : SV}
    (hop : op.op = .call ⟨.value fo, argos, ats⟩) (hg : op.guard = none) (hfv : seval s.env fo = .fn (.func f) [] []) (hargs : EntL nofz (rho [2] s.L.length) (.ptr 0 0 0 :: more) (argos.toList.map (seval s.env)))
    (hL : wkL nofz (rho [2] s.L.length) s.L [2] [some (.row ⟨2, 1, true, 251, fun _ => [bsl b, .v (.int .i64 p)]⟩)]) (hd : dstOk s op.dst)
    (hbs : s.base = 2) (h0 : getL s.L 0 = some (.row ⟨95, 1, true, 151, fun _ => c⟩)) (hc : c.length = 95) (h1 : getL s.L 1 = some (.row ⟨1, 1, true, 37, fun _ => [x]⟩)) (ha : lookup s.env 2 = .ptr 0 0 0) (hx : lookup s.env 3 = .ptr 1 0 0)
    (herr : ∀ e, rd b p = .error e → decode b = (zFrm, e))
    (hok : ∀ y q, rd b p = .ok (y, q) → SemOps Try.prog (QD Try.prog Try.f117 152 [.ptr 0 0 0, .ptr 1 0 0] (DR b)) all rest K ((s.after [2] [some (.row ⟨2, 1, true, 251, fun _ => [bsl b, .v (.int .i64 p)]⟩)] [some (.row ⟨2, 1, true, 251, fun _ => [bsl b, .v (.int .i64 q)]⟩)]).put op.dst ((enc y).ren (rho [2] s.L.length)))) :
    SemOps Try.prog (QD Try.prog Try.f117 152 [.ptr 0 0 0, .ptr 1 0 0] (DR b)) all (op :: rest) K s := by
  rcases hr : rd b p with e | ⟨y, q⟩
  · exact SemOps.callPanL [2] hcal (ht.2 e hr) (fun _ => rfl) hop hg hfv hargs rfl hL hd (dec_panL (by decide) hbs h0 hc h1 ha hx (herr e hr))
  · exact SemOps.callw [2] hcal (ht.1 y q hr) hop hg hfv hargs rfl hL hd (hok y q hr)
end Go.Proofs
