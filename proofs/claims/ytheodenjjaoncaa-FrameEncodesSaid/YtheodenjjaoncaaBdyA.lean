/- Contracts of functions that the laws reach, on abstract values, and what they need: no conditions but those that each theorem states. -/
import Derived.Test.YtheodenjjaoncaaBarP
import Derived.Test.YtheodenjjaoncaaEncQ
set_option linter.unusedVariables false
set_option linter.unusedSimpArgs false
set_option linter.defProp false
namespace Go.Proofs
open Go Go.SL
set_option maxRecDepth 100000
theorem right_calls (F : Frm) (hw : F.wf) (k : Nat) (h : F.kind = k) (h1 : 1 ≤ k) (h2 : k ≤ 12) : Pure Try.prog 122 [.agg F.fc.c] (.v (.bool (rgtG F (forms F.kind)))) := by
  have : k = 1 ∨ k = 2 ∨ k = 3 ∨ k = 4 ∨ k = 5 ∨ k = 6 ∨ k = 7 ∨ k = 8 ∨ k = 9 ∨ k = 10 ∨ k = 11 ∨ k = 12 := by omega
  refine right_loop F hw (forms F.kind) ?_ ?_ rfl ?_ <;> rw [h]
  · rcases this with rfl | rfl | rfl | rfl | rfl | rfl | rfl | rfl | rfl | rfl | rfl | rfl <;> decide
  · rcases this with rfl | rfl | rfl | rfl | rfl | rfl | rfl | rfl | rfl | rfl | rfl | rfl <;> decide
  · rcases this with rfl | rfl | rfl | rfl | rfl | rfl | rfl | rfl | rfl | rfl | rfl | rfl <;> decide
theorem allT5_iff (l : List Int) : allT5 l = true ↔ ∀ v ∈ l, 0 ≤ v ∧ v < 6 := by
  simp only [allT5, List.all_eq_true, Bool.and_eq_true, decide_eq_true_eq]
  constructor
  · intro h v hv
    have := h v hv
    omega
  · intro h v hv
    have := h v hv
    omega
theorem rgt_1 (F : Frm) : rgtG F [102, 116, 97] = rightB 1 F := by
  have e : rgtG F [102, 116, 97] = ((decide (0 ≤ F.fi) && decide (0 ≤ F.fn)) && ((decide (0 ≤ F.ti) && decide (0 ≤ F.tn)) && (true && true))) := rfl
  rw [e, Bool.eq_iff_iff]
  simp only [rightB, allNN, List.all_cons, List.all_nil, Bool.and_true, Bool.and_eq_true, decide_eq_true_eq]
  all_goals (constructor <;> intro h <;> (repeat' apply And.intro) <;> first | trivial | omega | exact h.2.2.2.2 | exact h.2.2.2.2.2 | exact h.2.2.2.2.2.2.2 | exact h.2.2.2 | exact h.2.2 | exact h.1.1.2.2 | exact h.2.1.2.2 | exact h.1.2.2 | exact h.2.1.2)
theorem rgt_2 (F : Frm) : rgtG F [102, 116, 110, 120] = rightB 2 F := by
  have e : rgtG F [102, 116, 110, 120] = ((decide (0 ≤ F.fi) && decide (0 ≤ F.fn)) && ((decide (0 ≤ F.ti) && decide (0 ≤ F.tn)) && (decide (0 ≤ F.n) && (decide ((F.tx.length : Int) ≤ 4096) && true)))) := rfl
  rw [e, Bool.eq_iff_iff]
  simp only [rightB, allNN, List.all_cons, List.all_nil, Bool.and_true, Bool.and_eq_true, decide_eq_true_eq]
  all_goals (constructor <;> intro h <;> (repeat' apply And.intro) <;> first | trivial | omega | exact h.2.2.2.2 | exact h.2.2.2.2.2 | exact h.2.2.2.2.2.2.2 | exact h.2.2.2 | exact h.2.2 | exact h.1.1.2.2 | exact h.2.1.2.2 | exact h.1.2.2 | exact h.2.1.2)
theorem rgt_3 (F : Frm) : rgtG F [102, 116, 110] = rightB 3 F := by
  have e : rgtG F [102, 116, 110] = ((decide (0 ≤ F.fi) && decide (0 ≤ F.fn)) && ((decide (0 ≤ F.ti) && decide (0 ≤ F.tn)) && (decide (0 ≤ F.n) && true))) := rfl
  rw [e, Bool.eq_iff_iff]
  simp only [rightB, allNN, List.all_cons, List.all_nil, Bool.and_true, Bool.and_eq_true, decide_eq_true_eq]
  all_goals (constructor <;> intro h <;> (repeat' apply And.intro) <;> first | trivial | omega | exact h.2.2.2.2 | exact h.2.2.2.2.2 | exact h.2.2.2.2.2.2.2 | exact h.2.2.2 | exact h.2.2 | exact h.1.1.2.2 | exact h.2.1.2.2 | exact h.1.2.2 | exact h.2.1.2)
theorem rgt_4 (F : Frm) : rgtG F [112, 97, 98, 114] = rightB 4 F := by
  have e : rgtG F [112, 97, 98, 114] = (decide (0 ≤ F.pn) && (true && (true && ((decide ((F.tr.length : Int) ≤ 64) && allT5 F.tr) && true)))) := rfl
  rw [e, Bool.eq_iff_iff]
  simp only [rightB, allNN, trB, allTr_iff, allT5_iff, List.all_cons, List.all_nil, Bool.and_true, Bool.true_and, Bool.and_eq_true, decide_eq_true_eq]
  all_goals (constructor <;> intro h <;> (repeat' apply And.intro) <;> first | trivial | omega | exact h.2.2.2.2 | exact h.2.2.2.2.2 | exact h.2.2.2.2.2.2.2 | exact h.2.2.2 | exact h.2.2 | exact h.1.1.2.2 | exact h.2.1.2.2 | exact h.1.2.2 | exact h.2.1.2)
theorem rgt_5 (F : Frm) : rgtG F [112] = rightB 5 F := by
  have e : rgtG F [112] = (decide (0 ≤ F.pn) && true) := rfl
  rw [e, Bool.eq_iff_iff]
  simp only [rightB, allNN, List.all_cons, List.all_nil, Bool.and_true, decide_eq_true_eq]
  all_goals (constructor <;> intro h <;> (repeat' apply And.intro) <;> first | trivial | omega | exact h.2.2.2.2 | exact h.2.2.2.2.2 | exact h.2.2.2.2.2.2.2 | exact h.2.2.2 | exact h.2.2 | exact h.1.1.2.2 | exact h.2.1.2.2 | exact h.1.2.2 | exact h.2.1.2)
theorem rgt_6 (F : Frm) : rgtG F [112, 100] = rightB 6 F := by
  have e : rgtG F [112, 100] = (decide (0 ≤ F.pn) && (true && true)) := rfl
  rw [e, Bool.eq_iff_iff]
  simp only [rightB, allNN, List.all_cons, List.all_nil, Bool.and_true, decide_eq_true_eq]
  all_goals (constructor <;> intro h <;> (repeat' apply And.intro) <;> first | trivial | omega | exact h.2.2.2.2 | exact h.2.2.2.2.2 | exact h.2.2.2.2.2.2.2 | exact h.2.2.2 | exact h.2.2 | exact h.1.1.2.2 | exact h.2.1.2.2 | exact h.1.2.2 | exact h.2.1.2)
theorem rgt_7 (F : Frm) : rgtG F [112, 100, 115] = rightB 7 F := by
  have e : rgtG F [112, 100, 115] = (decide (0 ≤ F.pn) && (true && (decide ((F.is.length : Int) ≤ 16) && true))) := rfl
  rw [e, Bool.eq_iff_iff]
  simp only [rightB, allNN, List.all_cons, List.all_nil, Bool.and_true, Bool.true_and, Bool.and_eq_true, decide_eq_true_eq]
  all_goals (constructor <;> intro h <;> (repeat' apply And.intro) <;> first | trivial | omega | exact h.2.2.2.2 | exact h.2.2.2.2.2 | exact h.2.2.2.2.2.2.2 | exact h.2.2.2 | exact h.2.2 | exact h.1.1.2.2 | exact h.2.1.2.2 | exact h.1.2.2 | exact h.2.1.2)
theorem rgt_8 (F : Frm) : rgtG F [97, 98, 108, 112, 100, 114] = rightB 8 F := by
  have e : rgtG F [97, 98, 108, 112, 100, 114] = (true && (true && ((decide (0 ≤ F.op) && decide (F.op ≤ 3)) && (decide (0 ≤ F.pn) && (true && ((decide ((F.tr.length : Int) ≤ 64) && allT5 F.tr) && true)))))) := rfl
  rw [e, Bool.eq_iff_iff]
  simp only [rightB, allNN, trB, allTr_iff, allT5_iff, List.all_cons, List.all_nil, Bool.and_true, Bool.true_and, Bool.and_eq_true, decide_eq_true_eq]
  all_goals (constructor <;> intro h <;> (repeat' apply And.intro) <;> first | trivial | omega | exact h.2.2.2.2 | exact h.2.2.2.2.2 | exact h.2.2.2.2.2.2.2 | exact h.2.2.2 | exact h.2.2 | exact h.1.1.2.2 | exact h.2.1.2.2 | exact h.1.2.2 | exact h.2.1.2)
theorem rgt_9 (F : Frm) : rgtG F [97, 110] = rightB 9 F := by
  have e : rgtG F [97, 110] = (true && (decide (0 ≤ F.n) && true)) := rfl
  rw [e, Bool.eq_iff_iff]
  simp only [rightB, allNN, List.all_cons, List.all_nil, Bool.and_true, Bool.true_and, decide_eq_true_eq]
  all_goals (constructor <;> intro h <;> (repeat' apply And.intro) <;> first | trivial | omega | exact h.2.2.2.2 | exact h.2.2.2.2.2 | exact h.2.2.2.2.2.2.2 | exact h.2.2.2 | exact h.2.2 | exact h.1.1.2.2 | exact h.2.1.2.2 | exact h.1.2.2 | exact h.2.1.2)
theorem rgt_10 (F : Frm) : rgtG F [97, 98, 110, 111, 119, 105, 121] = rightB 10 F := by
  have e : rgtG F [97, 98, 110, 111, 119, 105, 121] = (true && (true && (decide (0 ≤ F.n) && ((decide (1 ≤ F.op) && decide (F.op ≤ 4)) && ((decide (0 ≤ F.ttl) && decide (F.ttl ≤ 64)) && ((decide (0 ≤ F.vn) && decide ((F.val.length : Int) ≤ 64)) && (decide ((F.tx.length : Int) ≤ 64) && true))))))) := rfl
  rw [e, Bool.eq_iff_iff]
  simp only [rightB, allNN, List.all_cons, List.all_nil, Bool.and_true, Bool.true_and, Bool.and_eq_true, decide_eq_true_eq]
  all_goals (constructor <;> intro h <;> (repeat' apply And.intro) <;> first | trivial | omega | exact h.2.2.2.2 | exact h.2.2.2.2.2 | exact h.2.2.2.2.2.2.2 | exact h.2.2.2 | exact h.2.2 | exact h.1.1.2.2 | exact h.2.1.2.2 | exact h.1.2.2 | exact h.2.1.2)
theorem rgt_11 (F : Frm) : rgtG F [112, 100, 105] = rightB 11 F := by
  have e : rgtG F [112, 100, 105] = (decide (0 ≤ F.pn) && (true && ((decide (0 ≤ F.vn) && decide ((F.val.length : Int) ≤ 64)) && true))) := rfl
  rw [e, Bool.eq_iff_iff]
  simp only [rightB, allNN, List.all_cons, List.all_nil, Bool.and_true, Bool.true_and, Bool.and_eq_true, decide_eq_true_eq]
  all_goals (constructor <;> intro h <;> (repeat' apply And.intro) <;> first | trivial | omega | exact h.2.2.2.2 | exact h.2.2.2.2.2 | exact h.2.2.2.2.2.2.2 | exact h.2.2.2 | exact h.2.2 | exact h.1.1.2.2 | exact h.2.1.2.2 | exact h.1.2.2 | exact h.2.1.2)
theorem rgt_12 (F : Frm) : rgtG F [112, 100, 107] = rightB 12 F := by
  have e : rgtG F [112, 100, 107] = (decide (0 ≤ F.pn) && (true && (decide (0 ≤ F.vn) && true))) := rfl
  rw [e, Bool.eq_iff_iff]
  simp only [rightB, allNN, List.all_cons, List.all_nil, Bool.and_true, Bool.true_and, Bool.and_eq_true, decide_eq_true_eq]
  all_goals (constructor <;> intro h <;> (repeat' apply And.intro) <;> first | trivial | omega | exact h.2.2.2.2 | exact h.2.2.2.2.2 | exact h.2.2.2.2.2.2.2 | exact h.2.2.2 | exact h.2.2 | exact h.1.1.2.2 | exact h.2.1.2.2 | exact h.1.2.2 | exact h.2.1.2)
end Go.Proofs
