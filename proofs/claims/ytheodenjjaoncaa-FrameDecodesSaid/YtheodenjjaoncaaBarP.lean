/- Contracts of functions that the laws reach, on abstract values, and what they need: no conditions but those that each theorem states. -/
import Derived.Test.YtheodenjjaoncaaFixP
import Derived.Test.YtheodenjjaoncaaHelS2
set_option linter.unusedVariables false
set_option linter.unusedSimpArgs false
set_option linter.defProp false
namespace Go.Proofs
open Go Go.SL
set_option maxRecDepth 100000
def forms (k : Int) : List UInt8 :=
  if k = 1 then [102, 116, 97] else if k = 2 then [102, 116, 110, 120] else if k = 3 then [102, 116, 110] else if k = 4 then [112, 97, 98, 114] else if k = 5 then [112] else if k = 6 then [112, 100] else if k = 7 then [112, 100, 115] else if k = 8 then [97, 98, 108, 112, 100, 114]
  else if k = 9 then [97, 110] else if k = 10 then [97, 98, 110, 111, 119, 105, 121] else if k = 11 then [112, 100, 105] else if k = 12 then [112, 100, 107] else [63]
def fstr (l : List UInt8) : SV := .v (.string ⟨l.toArray⟩)
def barpc0 :=
  (And.intro (And.intro @FC.c_length @I16.c_length) (And.intro @IC.c_length (And.intro @idrs_len @lrows_length)))
def barpb0 :=
  (And.intro (And.intro (And.intro barpc0 (And.intro @FC.flat_eq @FC.one_eq)) (And.intro (And.intro @I16.one @IC.one) (And.intro @bdset_a @bsl_flat))) (And.intro (And.intro (And.intro @idrs_flat @lrows_flat) (And.intro @p144_one @zD.eq_1)) (And.intro (And.intro @zE.eq_1 @zF.eq_1) (And.intro @zH.eq_1 @zK.eq_1))))
def barpc1 :=
  (And.intro (And.intro (And.intro (And.intro (And.intro @FC.at_is (And.intro @FC.at_kind @FC.at_n)) (And.intro @FC.at_op (And.intro @FC.at_toA @FC.at_tr))) (And.intro (And.intro @FC.at_ttl (And.intro @FC.at_tx @FC.at_val)) (And.intro (And.intro @FC.part @FC.part_P) (And.intro @FC.part_a @FC.part_b)))) (And.intro (And.intro (And.intro @FC.part_from (And.intro @FC.part_it @FC.part_key)) (And.intro (And.intro @FC.part_to @FC.part_ver) (And.intro @FC.set_P @FC.set_a))) (And.intro (And.intro @FC.set_all (And.intro @FC.set_b @FC.set_from)) (And.intro (And.intro @FC.set_is @FC.set_it) (And.intro @FC.set_key @FC.set_kind))))) (And.intro (And.intro (And.intro (And.intro @FC.set_n (And.intro @FC.set_op @FC.set_to)) (And.intro (And.intro @FC.set_toA @FC.set_tr) (And.intro @FC.set_ttl @FC.set_tx))) (And.intro (And.intro @FC.set_val (And.intro @FC.set_ver @Int.cast_ofNat_Int)) (And.intro (And.intro @List.replicate_succ.{0} @List.replicate_zero.{0}) (And.intro @SKren_row @after_mk)))) (And.intro (And.intro (And.intro @al151 (And.intro @beq_self_eq_true.{0} @brows_length)) (And.intro (And.intro @brun_a @build151z) (And.intro @cellAt_succ @cellAt_zero))) (And.intro (And.intro @cond_false.{1} (And.intro @cond_true.{1} @renL_cons)) (And.intro (And.intro @renL_nil @ren_tup) (And.intro @tab.a3 @tab.s3))))))
def barpb1 :=
  (And.intro barpc1 barpc0)
def barpb2 :=
  (And.intro (And.intro barpc1 (And.intro barpc0 @bwk_a)) (And.intro (And.intro @eq_self.{1} @forall_const.{1}) (And.intro @implies_true.{0} @implies_true.{1})))
set_option maxHeartbeats 4000000 in
theorem form_calls (k : Int) : Pure Try.prog 151 [.v (.int .i64 k)] (fstr (forms k)) := by
  unfold fstr
  by_cases h1 : k = 1
  · subst h1
    rw [show forms 1 = [102, 116, 97] from rfl]
    refine SCall.mk (fn := Try.f151) (by kernel_rfl) rfl (Nat.le_of_ble_eq_true (by kernel_rfl)) ?_
    refine Sem.go (k := 1000) ?_
    simp -dsimp (decide := true) (disch := first | omega | simp (decide := true) only [barpb0]) only [barpb1, ↓brun_b, envOf, Nat.reduceBEq]
    refine SQ.answer (rs := [.tmp 2]) rfl rfl ?_
    simp -dsimp (decide := true) (disch := first | omega | simp (decide := true) only [barpb0]) only [barpb2, ↓brun_b, rho]
  by_cases h2 : k = 2
  · subst h2
    rw [show forms 2 = [102, 116, 110, 120] from rfl]
    refine SCall.mk (fn := Try.f151) (by kernel_rfl) rfl (Nat.le_of_ble_eq_true (by kernel_rfl)) ?_
    refine Sem.go (k := 1000) ?_
    simp -dsimp (decide := true) (disch := first | omega | simp (decide := true) only [barpb0]) only [barpb1, ↓brun_b, envOf, Nat.reduceBEq]
    refine SQ.answer (rs := [.tmp 2]) rfl rfl ?_
    simp -dsimp (decide := true) (disch := first | omega | simp (decide := true) only [barpb0]) only [barpb2, ↓brun_b, rho]
  by_cases h3 : k = 3
  · subst h3
    rw [show forms 3 = [102, 116, 110] from rfl]
    refine SCall.mk (fn := Try.f151) (by kernel_rfl) rfl (Nat.le_of_ble_eq_true (by kernel_rfl)) ?_
    refine Sem.go (k := 1000) ?_
    simp -dsimp (decide := true) (disch := first | omega | simp (decide := true) only [barpb0]) only [barpb1, ↓brun_b, envOf, Nat.reduceBEq]
    refine SQ.answer (rs := [.tmp 2]) rfl rfl ?_
    simp -dsimp (decide := true) (disch := first | omega | simp (decide := true) only [barpb0]) only [barpb2, ↓brun_b, rho]
  by_cases h4 : k = 4
  · subst h4
    rw [show forms 4 = [112, 97, 98, 114] from rfl]
    refine SCall.mk (fn := Try.f151) (by kernel_rfl) rfl (Nat.le_of_ble_eq_true (by kernel_rfl)) ?_
    refine Sem.go (k := 1000) ?_
    simp -dsimp (decide := true) (disch := first | omega | simp (decide := true) only [barpb0]) only [barpb1, ↓brun_b, envOf, Nat.reduceBEq]
    refine SQ.answer (rs := [.tmp 2]) rfl rfl ?_
    simp -dsimp (decide := true) (disch := first | omega | simp (decide := true) only [barpb0]) only [barpb2, ↓brun_b, rho]
  by_cases h5 : k = 5
  · subst h5
    rw [show forms 5 = [112] from rfl]
    refine SCall.mk (fn := Try.f151) (by kernel_rfl) rfl (Nat.le_of_ble_eq_true (by kernel_rfl)) ?_
    refine Sem.go (k := 1000) ?_
    simp -dsimp (decide := true) (disch := first | omega | simp (decide := true) only [barpb0]) only [barpb1, ↓brun_b, envOf, Nat.reduceBEq]
    refine SQ.answer (rs := [.tmp 2]) rfl rfl ?_
    simp -dsimp (decide := true) (disch := first | omega | simp (decide := true) only [barpb0]) only [barpb2, ↓brun_b, rho]
  by_cases h6 : k = 6
  · subst h6
    rw [show forms 6 = [112, 100] from rfl]
    refine SCall.mk (fn := Try.f151) (by kernel_rfl) rfl (Nat.le_of_ble_eq_true (by kernel_rfl)) ?_
    refine Sem.go (k := 1000) ?_
    simp -dsimp (decide := true) (disch := first | omega | simp (decide := true) only [barpb0]) only [barpb1, ↓brun_b, envOf, Nat.reduceBEq]
    refine SQ.answer (rs := [.tmp 2]) rfl rfl ?_
    simp -dsimp (decide := true) (disch := first | omega | simp (decide := true) only [barpb0]) only [barpb2, ↓brun_b, rho]
  by_cases h7 : k = 7
  · subst h7
    rw [show forms 7 = [112, 100, 115] from rfl]
    refine SCall.mk (fn := Try.f151) (by kernel_rfl) rfl (Nat.le_of_ble_eq_true (by kernel_rfl)) ?_
    refine Sem.go (k := 1000) ?_
    simp -dsimp (decide := true) (disch := first | omega | simp (decide := true) only [barpb0]) only [barpb1, ↓brun_b, envOf, Nat.reduceBEq]
    refine SQ.answer (rs := [.tmp 2]) rfl rfl ?_
    simp -dsimp (decide := true) (disch := first | omega | simp (decide := true) only [barpb0]) only [barpb2, ↓brun_b, rho]
  by_cases h8 : k = 8
  · subst h8
    rw [show forms 8 = [97, 98, 108, 112, 100, 114] from rfl]
    refine SCall.mk (fn := Try.f151) (by kernel_rfl) rfl (Nat.le_of_ble_eq_true (by kernel_rfl)) ?_
    refine Sem.go (k := 1000) ?_
    simp -dsimp (decide := true) (disch := first | omega | simp (decide := true) only [barpb0]) only [barpb1, ↓brun_b, envOf, Nat.reduceBEq]
    refine SQ.answer (rs := [.tmp 2]) rfl rfl ?_
    simp -dsimp (decide := true) (disch := first | omega | simp (decide := true) only [barpb0]) only [barpb2, ↓brun_b, rho]
  by_cases h9 : k = 9
  · subst h9
    rw [show forms 9 = [97, 110] from rfl]
    refine SCall.mk (fn := Try.f151) (by kernel_rfl) rfl (Nat.le_of_ble_eq_true (by kernel_rfl)) ?_
    refine Sem.go (k := 1000) ?_
    simp -dsimp (decide := true) (disch := first | omega | simp (decide := true) only [barpb0]) only [barpb1, ↓brun_b, envOf, Nat.reduceBEq]
    refine SQ.answer (rs := [.tmp 2]) rfl rfl ?_
    simp -dsimp (decide := true) (disch := first | omega | simp (decide := true) only [barpb0]) only [barpb2, ↓brun_b, rho]
  by_cases h10 : k = 10
  · subst h10
    rw [show forms 10 = [97, 98, 110, 111, 119, 105, 121] from rfl]
    refine SCall.mk (fn := Try.f151) (by kernel_rfl) rfl (Nat.le_of_ble_eq_true (by kernel_rfl)) ?_
    refine Sem.go (k := 1000) ?_
    simp -dsimp (decide := true) (disch := first | omega | simp (decide := true) only [barpb0]) only [barpb1, ↓brun_b, envOf, Nat.reduceBEq]
    refine SQ.answer (rs := [.tmp 2]) rfl rfl ?_
    simp -dsimp (decide := true) (disch := first | omega | simp (decide := true) only [barpb0]) only [barpb2, ↓brun_b, rho]
  by_cases h11 : k = 11
  · subst h11
    rw [show forms 11 = [112, 100, 105] from rfl]
    refine SCall.mk (fn := Try.f151) (by kernel_rfl) rfl (Nat.le_of_ble_eq_true (by kernel_rfl)) ?_
    refine Sem.go (k := 1000) ?_
    simp -dsimp (decide := true) (disch := first | omega | simp (decide := true) only [barpb0]) only [barpb1, ↓brun_b, envOf, Nat.reduceBEq]
    refine SQ.answer (rs := [.tmp 2]) rfl rfl ?_
    simp -dsimp (decide := true) (disch := first | omega | simp (decide := true) only [barpb0]) only [barpb2, ↓brun_b, rho]
  by_cases h12 : k = 12
  · subst h12
    rw [show forms 12 = [112, 100, 107] from rfl]
    refine SCall.mk (fn := Try.f151) (by kernel_rfl) rfl (Nat.le_of_ble_eq_true (by kernel_rfl)) ?_
    refine Sem.go (k := 1000) ?_
    simp -dsimp (decide := true) (disch := first | omega | simp (decide := true) only [barpb0]) only [barpb1, ↓brun_b, envOf, Nat.reduceBEq]
    refine SQ.answer (rs := [.tmp 2]) rfl rfl ?_
    simp -dsimp (decide := true) (disch := first | omega | simp (decide := true) only [barpb0]) only [barpb2, ↓brun_b, rho]
  have d : ∀ m : Int, k ≠ m → decide (k = m) = false := fun m h => decide_eq_false h
  have e : forms k = [63] := by unfold forms; simp only [h1, h2, h3, h4, h5, h6, h7, h8, h9, h10, h11, h12, if_false]
  rw [e]
  refine SCall.mk (fn := Try.f151) (by kernel_rfl) rfl (Nat.le_of_ble_eq_true (by kernel_rfl)) ?_
  refine Sem.go (k := 1000) ?_
  simp -dsimp (decide := true) (disch := first | omega | simp (decide := true) only [barpb0]) only [barpb1, ↓brun_b, envOf, Nat.reduceBEq, d 1 h1, d 2 h2, d 3 h3, d 4 h4, d 5 h5, d 6 h6, d 7 h7, d 8 h8, d 9 h9, d 10 h10, d 11 h11, d 12 h12]
  refine SQ.answer (rs := [.tmp 2]) rfl rfl ?_
  simp -dsimp (decide := true) (disch := first | omega | simp (decide := true) only [barpb0]) only [barpb2, ↓brun_b, rho]
def isLet (c : UInt8) : Bool := [102, 116, 110, 112, 97, 98, 100, 114, 115, 105, 107, 108, 111, 119, 120, 121].contains c
theorem strAt_form (l : List UInt8) (i : Nat) : strAt ⟨l.toArray⟩ i = ((l.getD i 0).toNat : Int) := by
  simp [strAt, List.getD_eq_getElem?_getD]
theorem forms_none (k : Int) (h : k < 1 ∨ 12 < k) : forms k = [63] := by
  unfold forms
  rw [if_neg (by omega), if_neg (by omega), if_neg (by omega), if_neg (by omega), if_neg (by omega), if_neg (by omega), if_neg (by omega), if_neg (by omega), if_neg (by omega), if_neg (by omega), if_neg (by omega), if_neg (by omega)]
end Go.Proofs
