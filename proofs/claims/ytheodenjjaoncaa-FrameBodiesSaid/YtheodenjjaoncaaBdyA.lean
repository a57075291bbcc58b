/- Contracts of functions that the laws reach, on abstract values, and what they need: no conditions but those that each theorem states. -/
import Derived.Test.YtheodenjjaoncaaBarP
import Derived.Test.YtheodenjjaoncaaEncQ
set_option linter.unusedVariables false
set_option linter.unusedSimpArgs false
set_option linter.defProp false
namespace Go.Proofs
open Go Go.SL
set_option maxRecDepth 100000
theorem right_calls (F : Frm) (hw : F.wf) (k : Nat) (h : F.kind = k) (h1 : 1 ≤ k) (h2 : k ≤ 12) : Pure Try.prog 122 [.agg F.fc.c] (.v (.bool (rgtG F (forms F.kind)))) := by
  have : k = 1 ∨ k = 2 ∨ k = 3 ∨ k = 4 ∨ k = 5 ∨ k = 6 ∨ k = 7 ∨ k = 8 ∨ k = 9 ∨ k = 10 ∨ k = 11 ∨ k = 12 := by omega
  refine right_loop F hw (forms F.kind) ?_ ?_ rfl ?_ <;> rw [h]
  · rcases this with rfl | rfl | rfl | rfl | rfl | rfl | rfl | rfl | rfl | rfl | rfl | rfl <;> decide
  · rcases this with rfl | rfl | rfl | rfl | rfl | rfl | rfl | rfl | rfl | rfl | rfl | rfl <;> decide
  · rcases this with rfl | rfl | rfl | rfl | rfl | rfl | rfl | rfl | rfl | rfl | rfl | rfl <;> decide
theorem allT5_iff (l : List Int) : allT5 l = true ↔ ∀ v ∈ l, 0 ≤ v ∧ v < 6 := by
  simp only [allT5, List.all_eq_true, Bool.and_eq_true, decide_eq_true_eq]
  constructor
  · intro h v hv
    have := h v hv
    omega
  · intro h v hv
    have := h v hv
    omega
theorem rgt_1 (F : Frm) : rgtG F [102, 116, 97] = rightB 1 F := by
  have e : rgtG F [102, 116, 97] = ((decide (0 ≤ F.fi) && decide (0 ≤ F.fn)) && ((decide (0 ≤ F.ti) && decide (0 ≤ F.tn)) && (true && true))) := rfl
  rw [e, Bool.eq_iff_iff]
  simp only [rightB, allNN, List.all_cons, List.all_nil, Bool.and_true, Bool.and_eq_true, decide_eq_true_eq]
  all_goals (constructor <;> intro h <;> (repeat' apply And.intro) <;> first | trivial | omega | exact h.2.2.2.2 | exact h.2.2.2.2.2 | exact h.2.2.2.2.2.2.2 | exact h.2.2.2 | exact h.2.2 | exact h.1.1.2.2 | exact h.2.1.2.2 | exact h.1.2.2 | exact h.2.1.2)
theorem rgt_2 (F : Frm) : rgtG F [102, 116, 110, 120] = rightB 2 F := by
  have e : rgtG F [102, 116, 110, 120] = ((decide (0 ≤ F.fi) && decide (0 ≤ F.fn)) && ((decide (0 ≤ F.ti) && decide (0 ≤ F.tn)) && (decide (0 ≤ F.n) && (decide ((F.tx.length : Int) ≤ 4096) && true)))) := rfl
  rw [e, Bool.eq_iff_iff]
  simp only [rightB, allNN, List.all_cons, List.all_nil, Bool.and_true, Bool.and_eq_true, decide_eq_true_eq]
  all_goals (constructor <;> intro h <;> (repeat' apply And.intro) <;> first | trivial | omega | exact h.2.2.2.2 | exact h.2.2.2.2.2 | exact h.2.2.2.2.2.2.2 | exact h.2.2.2 | exact h.2.2 | exact h.1.1.2.2 | exact h.2.1.2.2 | exact h.1.2.2 | exact h.2.1.2)
theorem rgt_3 (F : Frm) : rgtG F [102, 116, 110] = rightB 3 F := by
  have e : rgtG F [102, 116, 110] = ((decide (0 ≤ F.fi) && decide (0 ≤ F.fn)) && ((decide (0 ≤ F.ti) && decide (0 ≤ F.tn)) && (decide (0 ≤ F.n) && true))) := rfl
  rw [e, Bool.eq_iff_iff]
  simp only [rightB, allNN, List.all_cons, List.all_nil, Bool.and_true, Bool.and_eq_true, decide_eq_true_eq]
  all_goals (constructor <;> intro h <;> (repeat' apply And.intro) <;> first | trivial | omega | exact h.2.2.2.2 | exact h.2.2.2.2.2 | exact h.2.2.2.2.2.2.2 | exact h.2.2.2 | exact h.2.2 | exact h.1.1.2.2 | exact h.2.1.2.2 | exact h.1.2.2 | exact h.2.1.2)
theorem rgt_4 (F : Frm) : rgtG F [112, 97, 98, 114] = rightB 4 F := by
  have e : rgtG F [112, 97, 98, 114] = (decide (0 ≤ F.pn) && (true && (true && ((decide ((F.tr.length : Int) ≤ 64) && allT5 F.tr) && true)))) := rfl
  rw [e, Bool.eq_iff_iff]
  simp only [rightB, allNN, trB, allTr_iff, allT5_iff, List.all_cons, List.all_nil, Bool.and_true, Bool.true_and, Bool.and_eq_true, decide_eq_true_eq]
  all_goals (constructor <;> intro h <;> (repeat' apply And.intro) <;> first | trivial | omega | exact h.2.2.2.2 | exact h.2.2.2.2.2 | exact h.2.2.2.2.2.2.2 | exact h.2.2.2 | exact h.2.2 | exact h.1.1.2.2 | exact h.2.1.2.2 | exact h.1.2.2 | exact h.2.1.2)
theorem rgt_5 (F : Frm) : rgtG F [112] = rightB 5 F := by
  have e : rgtG F [112] = (decide (0 ≤ F.pn) && true) := rfl
  rw [e, Bool.eq_iff_iff]
  simp only [rightB, allNN, List.all_cons, List.all_nil, Bool.and_true, decide_eq_true_eq]
  all_goals (constructor <;> intro h <;> (repeat' apply And.intro) <;> first | trivial | omega | exact h.2.2.2.2 | exact h.2.2.2.2.2 | exact h.2.2.2.2.2.2.2 | exact h.2.2.2 | exact h.2.2 | exact h.1.1.2.2 | exact h.2.1.2.2 | exact h.1.2.2 | exact h.2.1.2)
theorem rgt_6 (F : Frm) : rgtG F [112, 100] = rightB 6 F := by
  have e : rgtG F [112, 100] = (decide (0 ≤ F.pn) && (true && true)) := rfl
  rw [e, Bool.eq_iff_iff]
  simp only [rightB, allNN, List.all_cons, List.all_nil, Bool.and_true, decide_eq_true_eq]
  all_goals (constructor <;> intro h <;> (repeat' apply And.intro) <;> first | trivial | omega | exact h.2.2.2.2 | exact h.2.2.2.2.2 | exact h.2.2.2.2.2.2.2 | exact h.2.2.2 | exact h.2.2 | exact h.1.1.2.2 | exact h.2.1.2.2 | exact h.1.2.2 | exact h.2.1.2)
theorem rgt_7 (F : Frm) : rgtG F [112, 100, 115] = rightB 7 F := by
  have e : rgtG F [112, 100, 115] = (decide (0 ≤ F.pn) && (true && (decide ((F.is.length : Int) ≤ 16) && true))) := rfl
  rw [e, Bool.eq_iff_iff]
  simp only [rightB, allNN, List.all_cons, List.all_nil, Bool.and_true, Bool.true_and, Bool.and_eq_true, decide_eq_true_eq]
  all_goals (constructor <;> intro h <;> (repeat' apply And.intro) <;> first | trivial | omega | exact h.2.2.2.2 | exact h.2.2.2.2.2 | exact h.2.2.2.2.2.2.2 | exact h.2.2.2 | exact h.2.2 | exact h.1.1.2.2 | exact h.2.1.2.2 | exact h.1.2.2 | exact h.2.1.2)
theorem rgt_8 (F : Frm) : rgtG F [97, 98, 108, 112, 100, 114] = rightB 8 F := by
  have e : rgtG F [97, 98, 108, 112, 100, 114] = (true && (true && ((decide (0 ≤ F.op) && decide (F.op ≤ 3)) && (decide (0 ≤ F.pn) && (true && ((decide ((F.tr.length : Int) ≤ 64) && allT5 F.tr) && true)))))) := rfl
  rw [e, Bool.eq_iff_iff]
  simp only [rightB, allNN, trB, allTr_iff, allT5_iff, List.all_cons, List.all_nil, Bool.and_true, Bool.true_and, Bool.and_eq_true, decide_eq_true_eq]
  all_goals (constructor <;> intro h <;> (repeat' apply And.intro) <;> first | trivial | omega | exact h.2.2.2.2 | exact h.2.2.2.2.2 | exact h.2.2.2.2.2.2.2 | exact h.2.2.2 | exact h.2.2 | exact h.1.1.2.2 | exact h.2.1.2.2 | exact h.1.2.2 | exact h.2.1.2)
theorem rgt_9 (F : Frm) : rgtG F [97, 110] = rightB 9 F := by
  have e : rgtG F [97, 110] = (true && (decide (0 ≤ F.n) && true)) := rfl
  rw [e, Bool.eq_iff_iff]
  simp only [rightB, allNN, List.all_cons, List.all_nil, Bool.and_true, Bool.true_and, decide_eq_true_eq]
  all_goals (constructor <;> intro h <;> (repeat' apply And.intro) <;> first | trivial | omega | exact h.2.2.2.2 | exact h.2.2.2.2.2 | exact h.2.2.2.2.2.2.2 | exact h.2.2.2 | exact h.2.2 | exact h.1.1.2.2 | exact h.2.1.2.2 | exact h.1.2.2 | exact h.2.1.2)
theorem rgt_10 (F : Frm) : rgtG F [97, 98, 110, 111, 119, 105, 121] = rightB 10 F := by
  have e : rgtG F [97, 98, 110, 111, 119, 105, 121] = (true && (true && (decide (0 ≤ F.n) && ((decide (1 ≤ F.op) && decide (F.op ≤ 4)) && ((decide (0 ≤ F.ttl) && decide (F.ttl ≤ 64)) && ((decide (0 ≤ F.vn) && decide ((F.val.length : Int) ≤ 64)) && (decide ((F.tx.length : Int) ≤ 64) && true))))))) := rfl
  rw [e, Bool.eq_iff_iff]
  simp only [rightB, allNN, List.all_cons, List.all_nil, Bool.and_true, Bool.true_and, Bool.and_eq_true, decide_eq_true_eq]
  all_goals (constructor <;> intro h <;> (repeat' apply And.intro) <;> first | trivial | omega | exact h.2.2.2.2 | exact h.2.2.2.2.2 | exact h.2.2.2.2.2.2.2 | exact h.2.2.2 | exact h.2.2 | exact h.1.1.2.2 | exact h.2.1.2.2 | exact h.1.2.2 | exact h.2.1.2)
theorem rgt_11 (F : Frm) : rgtG F [112, 100, 105] = rightB 11 F := by
  have e : rgtG F [112, 100, 105] = (decide (0 ≤ F.pn) && (true && ((decide (0 ≤ F.vn) && decide ((F.val.length : Int) ≤ 64)) && true))) := rfl
  rw [e, Bool.eq_iff_iff]
  simp only [rightB, allNN, List.all_cons, List.all_nil, Bool.and_true, Bool.true_and, Bool.and_eq_true, decide_eq_true_eq]
  all_goals (constructor <;> intro h <;> (repeat' apply And.intro) <;> first | trivial | omega | exact h.2.2.2.2 | exact h.2.2.2.2.2 | exact h.2.2.2.2.2.2.2 | exact h.2.2.2 | exact h.2.2 | exact h.1.1.2.2 | exact h.2.1.2.2 | exact h.1.2.2 | exact h.2.1.2)
theorem rgt_12 (F : Frm) : rgtG F [112, 100, 107] = rightB 12 F := by
  have e : rgtG F [112, 100, 107] = (decide (0 ≤ F.pn) && (true && (decide (0 ≤ F.vn) && true))) := rfl
  rw [e, Bool.eq_iff_iff]
  simp only [rightB, allNN, List.all_cons, List.all_nil, Bool.and_true, Bool.true_and, Bool.and_eq_true, decide_eq_true_eq]
  all_goals (constructor <;> intro h <;> (repeat' apply And.intro) <;> first | trivial | omega | exact h.2.2.2.2 | exact h.2.2.2.2.2 | exact h.2.2.2.2.2.2.2 | exact h.2.2.2 | exact h.2.2 | exact h.1.1.2.2 | exact h.2.1.2.2 | exact h.1.2.2 | exact h.2.1.2)
def bdyac0 :=
  (And.intro (And.intro (And.intro (And.intro @FC.c_length @FC.part) (And.intro @FC.set_all @Int.cast_ofNat_Int)) (And.intro (And.intro @List.replicate_succ.{0} @List.replicate_zero.{0}) (And.intro @SKren_row @after_mk))) (And.intro (And.intro (And.intro @al151 @cellAt_succ) (And.intro @cellAt_zero @mergeL_done)) (And.intro (And.intro @renL_cons @renL_flat) (And.intro @renL_nil (And.intro @ren_tup @sop_inv)))))
def bdyac1 :=
  (And.intro (And.intro (And.intro @beq_self_eq_true.{0} @brun_a) (And.intro @cond_false.{1} (And.intro @cond_true.{1} @tab.a151))) (And.intro (And.intro @tab.a3 (And.intro @tab.f151x0 @tab.s151)) (And.intro @tab.s3 (And.intro @tab.u181 @tab.u4))))
def bdyab0 :=
  (And.intro bdyac0 bdyac1)
def bdyab1 :=
  (And.intro (And.intro bdyac0 (And.intro bdyac1 @bwk_a)) (And.intro (And.intro @eq_self.{1} @forall_const.{1}) (And.intro @implies_true.{0} @implies_true.{1})))
def bdyab3 :=
  (And.intro (And.intro @List.length_cons.{0} (And.intro @List.length_nil.{0} @Nat.zero_add)) (And.intro (And.intro @roL_nil @roL_none) (And.intro @roL_row @ro_mk)))
set_option maxHeartbeats 4000000 in
theorem bodies_in (F : Frm) (hw : F.wf) (k : Nat) (hk : F.kind = k) (hk1 : 1 ≤ k) (hk2 : k ≤ 12) (T : TypeId) (v : SV) (hv : v.flat = true) (ho : Pure Try.prog 119 [.agg F.fc.c] (.tup [.ifc T v, .v (.bool true)])) (O : Bool) (hr : Pure Try.prog 121 [.ifc T v] (.v (.bool O))) (hR : Pure Try.prog 122 [.agg F.fc.c] (.v (.bool O))) (hp : Pure Try.prog 123 [.ifc T v] (.agg (bare k F).fc.c)) (hB : Pure Try.prog 120 [.agg F.fc.c] (.tup [.agg (bare k F).fc.c, .v (.bool true)])) (hsm : Pure Try.prog 104 [.agg (bare k F).fc.c, .agg (bare k F).fc.c] (.v (.bool true))) (fn : FuncId) (hm : Meth Try.prog T "Kind" fn) (hc : Cal Try.prog fn) (hkd : Pure Try.prog fn [v] (.v (.int .i64 F.kind))) : Pure Try.prog 31 [.agg F.fc.c] (.v (.bool true)) := by
  have hvf := ifc_flat T v hv
  have hvr : ∀ ρ, (SV.ifc T v).ren ρ = .ifc T v := fun ρ => SV.flat_ren ρ _ hvf
  have hve : ∀ (fz : Nat → Option SB) (ρ : Nat → Nat), Ent fz ρ (.ifc T v) (.ifc T v) = True := fun fz ρ => Ent_self _ hvf
  have hfe : ∀ (fz : Nat → Option SB) (ρ : Nat → Nat) (F : Frm), EntL fz ρ F.fc.c F.fc.c = True := fun fz ρ F => eq_true (EntL.self (frmF_flat F))
  have hOO : (O == O) = true := by cases O <;> rfl
  have hka : cellAt F.fc.c 0 = .v (.int .i64 F.kind) := FC.at_kind _
  generalize hD : bare k F = D at *
  refine SCall.mk (fn := Try.f31) (by kernel_rfl) rfl (Nat.le_of_ble_eq_true (by kernel_rfl)) ?_
  refine Sem.go (k := 1000) ?_
  simp -dsimp (decide := true) (disch := first | omega | simp (decide := true) only [bdset_a, zF, zE, zH, zK, zD, FC.c_length, frmF_flat, frmc_one]) only [bdyab0, ↓brun_b, envOf, Nat.reduceBEq]
  refine SemOps.callw [] cal.f119 (ho) rfl rfl rfl (by simp -dsimp (decide := true) (disch := first | omega | simp (decide := true) only [bdset_a, zF, zE, zH, zK, zD, FC.c_length, frmF_flat, frmc_one]) only [bdyab1, ↓brun_b, rho]) rfl (by simp -dsimp (decide := true) (disch := first | omega | simp (decide := true) only [bdset_a, zF, zE, zH, zK, zD, FC.c_length, frmF_flat, frmc_one]) only [bdyab1, rho]) (by simp -dsimp (decide := true) (disch := first | omega | simp (decide := true) only [bdset_a, zF, zE, zH, zK, zD, FC.c_length, frmF_flat, frmc_one]) only [bdyac1]) ?_
  refine SemOps.go (k := 1000) ?_
  simp -dsimp (decide := true) (disch := first | omega | simp (decide := true) only [bdset_a, zF, zE, zH, zK, zD, FC.c_length, frmF_flat, frmc_one]) only [bdyab0, ↓brun_b, Nat.reduceBEq, rho, hvr]
  refine SemOps.callq (k := 1000) cal.f120 (hB) rfl rfl rfl rfl (by simp only [bflat_a, frmF_flat]) (by simp only [bflat_a, frmF_flat]) (by simp -dsimp (decide := true) (disch := first | omega | simp (decide := true) only [bdset_a, zF, zE, zH, zK, zD, FC.c_length, frmF_flat, frmc_one]) only [bdyac1]) ?_
  simp -dsimp (decide := true) (disch := first | omega | simp (decide := true) only [bdset_a, zF, zE, zH, zK, zD, FC.c_length, frmF_flat, frmc_one]) only [bdyab0, ↓brun_b, Nat.reduceAdd, Nat.reduceBEq]
  refine Sem.draw' (by kernel_rfl) (.alt 0 (.one 1 (.one 2 (.one 3 (.one 4 (.one 5 (.one 6 (.one 8 (.one 9 (.alt 7 (.one 10 (.one 11 (.one 12 (.one 13 (.one 15 (.alt 14 (.alt 16 (.one 17 (.one 18 (.one 19 (.one 20 (.one 22 (.alt 21 (.alt 23 (.one 24 (.one 25 .done)) .non) .non)))))) .non) .non)))))) .non))))))))) .non) [] (by kernel_rfl) (fun G ff hG hf => ?_)
  simp (decide := true) only [bdyab3, Nat.reduceAdd] at hG ⊢
  simp -dsimp (decide := true) (disch := first | omega | simp (decide := true) only [bdset_a, zF, zE, zH, zK, zD, FC.c_length, frmF_flat, frmc_one]) only [bdyab0, ↓brun_b, Nat.reduceAdd]
  refine OpSem.callq cal.f116 (fixed4_calls) rfl rfl rfl (by simp only [bflat_a]) (by simp only [bflat_a]) (by simp -dsimp (decide := true) (disch := first | omega | simp (decide := true) only [bdset_a, zF, zE, zH, zK, zD, FC.c_length, frmF_flat, frmc_one]) only [bdyac1]) ?_
  simp -dsimp (decide := true) (disch := first | omega | simp (decide := true) only [bdset_a, zF, zE, zH, zK, zD, FC.c_length, frmF_flat, frmc_one]) only [bdyab0, ↓brun_b, Nat.reduceAdd, Nat.reduceBEq, hG, hka]
  refine OpSem.callI rfl rfl hm hc hkd hv rfl (by simp -dsimp (decide := true) (disch := first | omega | simp (decide := true) only [bdset_a, zF, zE, zH, zK, zD, FC.c_length, frmF_flat, frmc_one]) only [bdyab0]) ?_
  simp -dsimp (decide := true) (disch := first | omega | simp (decide := true) only [bdset_a, zF, zE, zH, zK, zD, FC.c_length, frmF_flat, frmc_one]) only [bdyab0, ↓brun_b, Nat.reduceAdd, Nat.reduceBEq, hG]
  refine OpSem.callw [] cal.f121 (hr) rfl rfl (by simp -dsimp (decide := true) (disch := first | omega | simp (decide := true) only [bdset_a, zF, zE, zH, zK, zD, FC.c_length, frmF_flat, frmc_one]) only [bdyab1, ↓brun_b, Nat.reduceAdd, Nat.reduceBEq, rho]) rfl (by simp -dsimp (decide := true) (disch := first | omega | simp (decide := true) only [bdset_a, zF, zE, zH, zK, zD, FC.c_length, frmF_flat, frmc_one]) only [bdyab1, Nat.reduceAdd, rho]) (by simp -dsimp (decide := true) (disch := first | omega | simp (decide := true) only [bdset_a, zF, zE, zH, zK, zD, FC.c_length, frmF_flat, frmc_one]) only [bdyac1]) ?_
  simp -dsimp (decide := true) (disch := first | omega | simp (decide := true) only [bdset_a, zF, zE, zH, zK, zD, FC.c_length, frmF_flat, frmc_one]) only [bdyab0, ↓brun_b, Nat.reduceAdd, Nat.reduceBEq, rho]
  refine OpSem.callq cal.f122 (hR) rfl rfl rfl (by simp only [bflat_a, frmF_flat]) (by simp only [bflat_a]) (by simp -dsimp (decide := true) (disch := first | omega | simp (decide := true) only [bdset_a, zF, zE, zH, zK, zD, FC.c_length, frmF_flat, frmc_one]) only [bdyac1]) ?_
  simp -dsimp (decide := true) (disch := first | omega | simp (decide := true) only [bdset_a, zF, zE, zH, zK, zD, FC.c_length, frmF_flat, frmc_one]) only [bdyab0, ↓brun_b, Nat.reduceAdd, Nat.reduceBEq, hG]
  refine OpSem.callw [] cal.f123 (hp) rfl rfl (by simp -dsimp (decide := true) (disch := first | omega | simp (decide := true) only [bdset_a, zF, zE, zH, zK, zD, FC.c_length, frmF_flat, frmc_one]) only [bdyab1, ↓brun_b, Nat.reduceAdd, Nat.reduceBEq, rho]) rfl (by simp -dsimp (decide := true) (disch := first | omega | simp (decide := true) only [bdset_a, zF, zE, zH, zK, zD, FC.c_length, frmF_flat, frmc_one]) only [bdyab1, Nat.reduceAdd, rho]) (by simp -dsimp (decide := true) (disch := first | omega | simp (decide := true) only [bdset_a, zF, zE, zH, zK, zD, FC.c_length, frmF_flat, frmc_one]) only [bdyac1]) ?_
  simp -dsimp (decide := true) (disch := first | omega | simp (decide := true) only [bdset_a, zF, zE, zH, zK, zD, FC.c_length, frmF_flat, frmc_one]) only [bdyab0, ↓brun_b, Nat.reduceAdd, Nat.reduceBEq, rho]
  refine OpSem.callq cal.f104 (hsm) rfl rfl rfl (by simp only [bflat_a, frmF_flat]) (by simp only [bflat_a]) (by simp -dsimp (decide := true) (disch := first | omega | simp (decide := true) only [bdset_a, zF, zE, zH, zK, zD, FC.c_length, frmF_flat, frmc_one]) only [bdyac1]) ?_
  simp -dsimp (decide := true) (disch := first | omega | simp (decide := true) only [bdset_a, zF, zE, zH, zK, zD, FC.c_length, frmF_flat, frmc_one]) only [bdyab0, ↓brun_b, Nat.reduceAdd, Nat.reduceBEq]
  refine hf _ (Sem.go (k := 1000) ?_)
  simp (decide := true) only [back_mk, backL_row, backL_nil, Nat.zero_add, Nat.reduceAdd]
  simp -dsimp (decide := true) (disch := first | omega | simp (decide := true) only [bdset_a, zF, zE, zH, zK, zD, FC.c_length, frmF_flat, frmc_one]) only [bdyab0]
  refine SQ.answer (rs := [.tmp 2]) rfl rfl ?_
  simp -dsimp (decide := true) (disch := first | omega | simp (decide := true) only [bdset_a, zF, zE, zH, zK, zD, FC.c_length, frmF_flat, frmc_one]) only [bdyab1, ↓brun_b, Nat.reduceAdd, rho]
def bdyab4 :=
  (And.intro bdyac0 (And.intro bdyac1 @sBin_ii))
set_option maxHeartbeats 4000000 in
theorem bodies_out (F : Frm) (hk : F.kind < 1 ∨ 12 < F.kind) : Pure Try.prog 31 [.agg F.fc.c] (.v (.bool true)) := by
  have ho := of_none F hk
  have hB := bare_none F (forms_none _ hk)
  refine SCall.mk (fn := Try.f31) (by kernel_rfl) rfl (Nat.le_of_ble_eq_true (by kernel_rfl)) ?_
  refine Sem.go (k := 1000) ?_
  simp -dsimp (decide := true) (disch := first | omega | simp (decide := true) only [bdset_a, zF, zE, zH, zK, zD, FC.c_length, frmF_flat, frmc_one]) only [bdyab0, ↓brun_b, envOf, Nat.reduceBEq]
  refine SemOps.callq (k := 1000) cal.f119 (ho) rfl rfl rfl rfl (by simp only [bflat_a, frmF_flat]) (by simp only [bflat_a]) (by simp -dsimp (decide := true) (disch := first | omega | simp (decide := true) only [bdset_a, zF, zE, zH, zK, zD, FC.c_length, frmF_flat, frmc_one]) only [bdyac1]) ?_
  simp -dsimp (decide := true) (disch := first | omega | simp (decide := true) only [bdset_a, zF, zE, zH, zK, zD, FC.c_length, frmF_flat, frmc_one]) only [bdyab0, ↓brun_b, Nat.reduceBEq]
  refine SemOps.callq (k := 1000) cal.f120 (hB) rfl rfl rfl rfl (by simp only [bflat_a, frmF_flat]) (by simp only [bflat_a, frmF_flat]) (by simp -dsimp (decide := true) (disch := first | omega | simp (decide := true) only [bdset_a, zF, zE, zH, zK, zD, FC.c_length, frmF_flat, frmc_one]) only [bdyac1]) ?_
  simp -dsimp (decide := true) (disch := first | omega | simp (decide := true) only [bdset_a, zF, zE, zH, zK, zD, FC.c_length, frmF_flat, frmc_one]) only [bdyab0, ↓brun_b, Nat.reduceAdd, Nat.reduceBEq]
  refine SemOps.callq (k := 1000) cal.f116 (fixed4_calls) rfl rfl rfl rfl (by simp only [bflat_a]) (by simp only [bflat_a]) (by simp -dsimp (decide := true) (disch := first | omega | simp (decide := true) only [bdset_a, zF, zE, zH, zK, zD, FC.c_length, frmF_flat, frmc_one]) only [bdyac1]) ?_
  simp -dsimp (decide := true) (disch := first | omega | simp (decide := true) only [bdset_a, zF, zE, zH, zK, zD, FC.c_length, frmF_flat, frmc_one]) only [bdyab4, ↓brun_b, Nat.reduceAdd, Nat.reduceBEq]
  refine SemOps.nn rfl rfl rfl tab.u181 (by simp -dsimp (decide := true) (disch := first | omega | simp (decide := true) only [bdset_a, zF, zE, zH, zK, zD, FC.c_length, frmF_flat, frmc_one]) only [bdyab0, ↓brun_b]) (by simp -dsimp (decide := true) (disch := first | omega | simp (decide := true) only [bdset_a, zF, zE, zH, zK, zD, FC.c_length, frmF_flat, frmc_one]) only [bdyab0]) ?_
  refine SemOps.go (k := 1000) ?_
  simp -dsimp (decide := true) (disch := first | omega | simp (decide := true) only [bdset_a, zF, zE, zH, zK, zD, FC.c_length, frmF_flat, frmc_one]) only [bdyab0, ↓brun_b, Nat.reduceAdd, Nat.reduceBEq]
  refine SQ.answer (rs := [.tmp 2]) rfl rfl ?_
  simp -dsimp (decide := true) (disch := first | omega | simp (decide := true) only [bdset_a, zF, zE, zH, zK, zD, FC.c_length, frmF_flat, frmc_one]) only [bdyab1, ↓brun_b, Nat.reduceAdd, rho]
theorem frameBodies_calls (F : Frm) (hw : F.wf) : Pure Try.prog 31 [.agg F.fc.c] (.v (.bool true)) := by
  by_cases hkk : 1 ≤ F.kind ∧ F.kind ≤ 12
  · obtain ⟨k, hk⟩ : ∃ k : Nat, F.kind = (k : Int) := ⟨F.kind.toNat, by omega⟩
    have h12 : 1 ≤ k ∧ k ≤ 12 := by omega
    have hB := bare_calls F hw k hk h12.1 h12.2
    have hR := right_calls F hw k hk h12.1 h12.2
    rw [hk] at hR
    have b_ltx : F.tx.length ≤ 140737488355328 := by have := hw.ltx; unfold reachBytes at this; omega
    have b_lval : F.val.length ≤ 140737488355328 := by have := hw.lval; unfold reachBytes at this; omega
    have b_ltr : F.tr.length * 8 ≤ 140737488355328 := by have := hw.ltr; unfold reachBytes at this; omega
    have b_lis : F.is.length * 16 ≤ 140737488355328 := by have := hw.lis; unfold reachBytes at this; omega
    have h1 : F.tr.length < 4611686018427387904 := by have := hw.ltr; unfold reachBytes at this; omega
    have h2 : F.is.length < 4611686018427387904 := by have := hw.lis; unfold reachBytes at this; omega
    have : k = 1 ∨ k = 2 ∨ k = 3 ∨ k = 4 ∨ k = 5 ∨ k = 6 ∨ k = 7 ∨ k = 8 ∨ k = 9 ∨ k = 10 ∨ k = 11 ∨ k = 12 := by omega
    rcases this with rfl | rfl | rfl | rfl | rfl | rfl | rfl | rfl | rfl | rfl | rfl | rfl
    · rw [show forms ((1 : Nat) : Int) = [102, 116, 97] from rfl, rgt_1] at hR
      exact bodies_in F hw 1 hk h12.1 h12.2 214 _ (bodyF_1 F) (of_hello F hk) (rightB 1 F) (right_k1 F) hR (plainB_1 F) hB (same_refl _ (by show 0 < 4611686018427387904; decide) (by show 0 < 4611686018427387904; decide)) 191 meth214 cal.f191 (by rw [hk]; exact kind_k1 F)
    · rw [show forms ((2 : Nat) : Int) = [102, 116, 110, 120] from rfl, rgt_2] at hR
      exact bodies_in F hw 2 hk h12.1 h12.2 210 _ (bodyF_2 F) (of_data F hk b_ltx) (rightB 2 F) (right_k2 F) hR (plainB_2 F b_ltx) hB (same_refl _ (by show 0 < 4611686018427387904; decide) (by show 0 < 4611686018427387904; decide)) 190 meth210 cal.f190 (by rw [hk]; exact kind_k2 F)
    · rw [show forms ((3 : Nat) : Int) = [102, 116, 110] from rfl, rgt_3] at hR
      exact bodies_in F hw 3 hk h12.1 h12.2 218 _ (bodyF_3 F) (of_ack F hk) (rightB 3 F) (right_k3 F) hR (plainB_3 F) hB (same_refl _ (by show 0 < 4611686018427387904; decide) (by show 0 < 4611686018427387904; decide)) 192 meth218 cal.f192 (by rw [hk]; exact kind_k3 F)
    · rw [show forms ((4 : Nat) : Int) = [112, 97, 98, 114] from rfl, rgt_4] at hR
      exact bodies_in F hw 4 hk h12.1 h12.2 226 _ (bodyF_4 F) (of_k4 F hk b_ltr) (rightB 4 F) (right_k4 F h1) hR (plainB_4 F b_ltr) hB (same_refl _ h1 (by show 0 < 4611686018427387904; decide)) 193 meth226 cal.f193 (by rw [hk]; exact kind_k4 F)
    · rw [show forms ((5 : Nat) : Int) = [112] from rfl, rgt_5] at hR
      exact bodies_in F hw 5 hk h12.1 h12.2 230 _ (bodyF_5 F) (of_k5 F hk) (rightB 5 F) (right_k5 F) hR (plainB_5 F) hB (same_refl _ (by show 0 < 4611686018427387904; decide) (by show 0 < 4611686018427387904; decide)) 194 meth230 cal.f194 (by rw [hk]; exact kind_k5 F)
    · rw [show forms ((6 : Nat) : Int) = [112, 100] from rfl, rgt_6] at hR
      exact bodies_in F hw 6 hk h12.1 h12.2 232 _ (bodyF_6 F) (of_k6 F hk) (rightB 6 F) (right_k6 F) hR (plainB_6 F) hB (same_refl _ (by show 0 < 4611686018427387904; decide) (by show 0 < 4611686018427387904; decide)) 195 meth232 cal.f195 (by rw [hk]; exact kind_k6 F)
    · rw [show forms ((7 : Nat) : Int) = [112, 100, 115] from rfl, rgt_7] at hR
      exact bodies_in F hw 7 hk h12.1 h12.2 235 _ (bodyF_7 F) (of_k7 F hk b_lis) (rightB 7 F) (right_k7 F) hR (plainB_7 F b_lis) hB (same_refl _ (by show 0 < 4611686018427387904; decide) h2) 196 meth235 cal.f196 (by rw [hk]; exact kind_k7 F)
    · rw [show forms ((8 : Nat) : Int) = [97, 98, 108, 112, 100, 114] from rfl, rgt_8] at hR
      exact bodies_in F hw 8 hk h12.1 h12.2 237 _ (bodyF_8 F) (of_k8 F hk b_ltr) (rightB 8 F) (right_k8 F h1) hR (plainB_8 F b_ltr) hB (same_refl _ h1 (by show 0 < 4611686018427387904; decide)) 197 meth237 cal.f197 (by rw [hk]; exact kind_k8 F)
    · rw [show forms ((9 : Nat) : Int) = [97, 110] from rfl, rgt_9] at hR
      exact bodies_in F hw 9 hk h12.1 h12.2 239 _ (bodyF_9 F) (of_k9 F hk) (rightB 9 F) (right_k9 F) hR (plainB_9 F) hB (same_refl _ (by show 0 < 4611686018427387904; decide) (by show 0 < 4611686018427387904; decide)) 198 meth239 cal.f198 (by rw [hk]; exact kind_k9 F)
    · rw [show forms ((10 : Nat) : Int) = [97, 98, 110, 111, 119, 105, 121] from rfl, rgt_10] at hR
      exact bodies_in F hw 10 hk h12.1 h12.2 241 _ (bodyF_10 F) (of_k10 F hk b_ltx b_lval) (rightB 10 F) (right_k10 F) hR (plainB_10 F b_ltx b_lval) hB (same_refl _ (by show 0 < 4611686018427387904; decide) (by show 0 < 4611686018427387904; decide)) 199 meth241 cal.f199 (by rw [hk]; exact kind_k10 F)
    · rw [show forms ((11 : Nat) : Int) = [112, 100, 105] from rfl, rgt_11] at hR
      exact bodies_in F hw 11 hk h12.1 h12.2 244 _ (bodyF_11 F) (of_k11 F hk b_lval) (rightB 11 F) (right_k11 F) hR (plainB_11 F b_lval) hB (same_refl _ (by show 0 < 4611686018427387904; decide) (by show 0 < 4611686018427387904; decide)) 200 meth244 cal.f200 (by rw [hk]; exact kind_k11 F)
    · rw [show forms ((12 : Nat) : Int) = [112, 100, 107] from rfl, rgt_12] at hR
      exact bodies_in F hw 12 hk h12.1 h12.2 246 _ (bodyF_12 F) (of_k12 F hk) (rightB 12 F) (right_k12 F) hR (plainB_12 F) hB (same_refl _ (by show 0 < 4611686018427387904; decide) (by show 0 < 4611686018427387904; decide)) 201 meth246 cal.f201 (by rw [hk]; exact kind_k12 F)
  · exact bodies_out F (by omega)
theorem frameBodies_law (l0 : List SV) (h0 : ClsC Try.prog 20 151 l0) : Pure Try.prog 31 [.agg l0] (.v (.bool true)) := by
  obtain ⟨F, rfl, hw⟩ := cls_frm h0
  exact frameBodies_calls F hw
end Go.Proofs
