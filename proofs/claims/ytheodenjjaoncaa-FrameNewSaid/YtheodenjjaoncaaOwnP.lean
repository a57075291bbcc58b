/- Contracts of functions that the laws reach, on abstract values, and what they need: no conditions but those that each theorem states. -/
import Derived.Test.YtheodenjjaoncaaHelS2
import Derived.Test.YtheodenjjaoncaaFraP
import Derived.Test.YtheodenjjaoncaaSlY
import Derived.Test.YtheodenjjaoncaaBarP
import Derived.Test.YtheodenjjaoncaaEncR
import Derived.Test.YtheodenjjaoncaaFcP
set_option linter.unusedVariables false
set_option linter.unusedSimpArgs false
set_option linter.defProp false
namespace Go.Proofs
open Go Go.SL
set_option maxRecDepth 100000
def ofc (F : Frm) (a b c d : Nat) : FC := ⟨.v (.int .i64 F.kind), F.who, .v (.int .i64 F.pn), .v (.bool F.toA), F.a, F.b, .v (.int .i64 F.n), .v (.int .i64 F.fi), .v (.int .i64 F.fn), .v (.int .i64 F.ti), .v (.int .i64 F.tn), .slc a 0 F.tr.length, .slc b 0 F.is.length, F.key, .v (.int .i64 F.vn), F.vwho, .slc c 0 F.val.length, .v (.int .i64 F.op), .v (.int .i64 F.ttl), .slc d 0 F.tx.length⟩
def trR (F : Frm) : Option SK := some (.row ⟨1, F.tr.length, true, 3, lrow F.tr⟩)
def isR (F : Frm) : Option SK := some (.row ⟨16, F.is.length, true, 23, fun e => (idrs F.is).getD e []⟩)
def ownR (F : Frm) : List (Option SK) := [trR F, isR F, bytR F.val, bytR F.tx]
def OwnF (f : FuncId) (ac : List SV) (F : Frm) : Prop := SCall Try.prog f ac [] fun r L => r = .ret (.agg (ofc F 0 1 2 3).c) ∧ L = ownR F
theorem nomL_app : ∀ (l m : List SV), SV.nomL (l ++ m) = (SV.nomL l && SV.nomL m)
  | [], m => by simp [SV.nomL]
  | x :: l, m => by simp [SV.nomL, nomL_app l m, Bool.and_assoc]
theorem nomL_map {α : Type} (f : α → Value) : ∀ l : List α, SV.nomL (l.map fun x => SV.v (f x)) = true
  | [] => rfl
  | _ :: l => by simp [SV.nomL, SV.nom, nomL_map f l]
theorem I16.nom (x : I16) : SV.nomL x.c = true := by unfold I16.c; exact nomL_map _ _
theorem ofc_nom (F : Frm) (a b c d : Nat) : SV.nomL (ofc F a b c d).c = true := by
  simp only [FC.c, ofc, SV.nomL, SV.nom, nomL_app, I16.nom, Bool.and_self]
theorem lrow_nom (l : List Int) (e : Nat) : SV.nomL (lrow l e) = true := rfl
theorem brow_nom (l : List UInt8) (e : Nat) : SV.nomL (brow l e) = true := rfl
theorem idrs_nom (l : List I16) (e : Nat) : SV.nomL ((idrs l).getD e []) = true := by
  by_cases h : e < l.length
  · rw [idrs_at l e h I16.zero]; exact I16.nom _
  · rw [List.getD_eq_getElem?_getD, List.getElem?_eq_none (by rw [idrs_len]; omega)]; rfl
theorem ownR_nom (F : Frm) : nomK (ownR F) := by
  intro i z n own ty el h e he
  match i, h with
  | 0, h => cases h; exact lrow_nom _ _
  | 1, h => cases h; exact idrs_nom _ _
  | 2, h => cases h; exact brow_nom _ _
  | 3, h => cases h; exact brow_nom _ _
  | i + 4, h => simp [ownR] at h
theorem own_tr {fz : Nat → Option SB} {ρ : Nat → Nat} {l : List Int} {e : Nat} (h : e < l.length) : EntL fz ρ (lrow l e) ((lrows l).getD (e - 0) []) := by
  rw [Nat.sub_zero, lrows_at l e h]; exact EntL.self (lrow_flat _ _)
theorem own_by {fz : Nat → Option SB} {ρ : Nat → Nat} {l : List UInt8} {e : Nat} (h : e < l.length) : EntL fz ρ (brow l e) ((brows l).getD (e - 0) []) := by
  rw [Nat.sub_zero, brows_at l e h]; exact EntL.self (brow_flat _ _)
theorem own_is {fz : Nat → Option SB} {ρ : Nat → Nat} {l : List I16} {e : Nat} (h : e < l.length) : EntL fz ρ ((idrs l).getD e []) ((idrs l).getD (e - 0) []) := by
  rw [Nat.sub_zero, idrs_at l e h I16.zero]; exact EntL.self (I16.flat _)
def ownpc0 :=
  (aI (aI @AK.c_length @CP.c_length) (aI @PE.c_length (aI @PK.c_length @SU.c_length)))
def ownpc1 :=
  (aI (aI (aI (aI @AK.one @CP.one) (aI @FC.one_eq @I16.flat)) (aI (aI @IC.flat @IC.one) (aI @PE.one @PK.one))) (aI (aI (aI @SU.one @bdset_a) (aI @brow_flat @lrow_flat)) (aI (aI @zD.eq_1 @zE.eq_1) (aI @zF.eq_1 (aI @zH.eq_1 @zK.eq_1)))))
def ownpb0 :=
  (aI (aI ownpc0 (aI ownpc1 @FC.c_length)) (aI (aI @I16.c_length @IC.c_length) (aI @idrs_len @lrows_length)))
def ownpc2 :=
  (aI (aI (aI @FC.at_is (aI @FC.at_kind @FC.at_n)) (aI (aI @FC.at_op @FC.at_toA) (aI @FC.at_tr @FC.at_ttl))) (aI (aI (aI @FC.at_tx @FC.at_val) (aI @FC.part_P @FC.part_a)) (aI (aI @FC.part_b @FC.part_from) (aI @FC.part_it @FC.part_to))))
def ownpc3 :=
  (aI (aI (aI (aI @FC.part @FC.set_all) (aI @Int.cast_ofNat_Int (aI @List.replicate_succ.{0} @List.replicate_zero.{0}))) (aI (aI @SKren_row (aI @after_mk @al151)) (aI @al210 (aI @brow_cell @cellAt_succ)))) (aI (aI (aI @cellAt_zero (aI @mergeL_done @mk210)) (aI @renL_cons (aI @renL_flat @renL_nil))) (aI (aI @ren_tup (aI @sop_assert @sp02)) (aI @sp22 (aI @splice_0 @splice_c)))))
def ownpc4 :=
  (aI (aI @FC.set_is (aI @FC.set_tr @FC.set_tx)) (aI (aI @FC.set_val @bs145_0) (aI @bs35_0 @bs79_0)))
def ownpc5 :=
  (aI (aI (aI (aI @beq_self_eq_true.{0} @brun_a) (aI @cond_false.{1} @cond_true.{1})) (aI (aI @tab.a149 @tab.a2) (aI @tab.a23 @tab.a35))) (aI (aI (aI @tab.a5 @tab.f149x2) (aI @tab.s149 @tab.s2)) (aI (aI @tab.s23 @tab.s35) (aI @tab.s5 (aI @tab.u23 @tab.u35)))))
def ownpc6 :=
  (aI (aI (aI (aI @tab.a135 (aI @tab.a144 @tab.a145)) (aI (aI @tab.a151 @tab.a3) (aI @tab.a4 @tab.a79))) (aI (aI (aI @tab.f151x0 @tab.f151x1) (aI @tab.f151x10 @tab.f151x11)) (aI (aI @tab.f151x12 @tab.f151x13) (aI @tab.f151x2 @tab.f151x3)))) (aI (aI (aI @tab.f151x4 (aI @tab.f151x5 @tab.f151x6)) (aI (aI @tab.f151x7 @tab.f151x8) (aI @tab.f151x9 @tab.s135))) (aI (aI (aI @tab.s144 @tab.s145) (aI @tab.s151 @tab.s3)) (aI (aI @tab.s4 @tab.s79) (aI @tab.u145 @tab.u79)))))
def ownpb1 :=
  (aI (aI (aI ownpc2 ownpc3) (aI ownpc4 (aI ownpc5 ownpc6))) (aI (aI @FC.c_length (aI @I16.c_length @IC.at_val)) (aI @IC.c_length (aI @idrs_len @lrows_length))))
def ownpb2 :=
  (aI (aI (aI (aI ownpc2 ownpc3) (aI ownpc4 ownpc5)) (aI (aI ownpc6 @FC.c_length) (aI @I16.c_length @IC.at_val))) (aI (aI (aI @IC.c_length @bwk_a) (aI @eq_self.{1} @forall_const.{1})) (aI (aI @idrs_len @implies_true.{0}) (aI @implies_true.{1} @lrows_length))))
def ownpb3 :=
  (aI (aI (aI (aI ownpc2 ownpc3) (aI ownpc4 ownpc5)) (aI (aI ownpc6 @FC.c_length) (aI @FC.ent @I16.c_length))) (aI (aI (aI @IC.at_val @IC.c_length) (aI @bwk_a @eq_self.{1})) (aI (aI @forall_const.{1} @idrs_len) (aI @implies_true.{0} (aI @implies_true.{1} @lrows_length)))))
theorem copy_own (F : Frm) (h8 : F.tr.length * 8 ≤ 140737488355328) (h9 : F.is.length * 16 ≤ 140737488355328) (h10 : F.tx.length ≤ 140737488355328) (h11 : F.val.length ≤ 140737488355328) : OwnF 107 [.agg F.fc.c] F := by
  unfold OwnF ownR trR isR bytR ofc
  refine SCall.mk (fn := Try.f107) (by kernel_rfl) rfl (Nat.le_of_ble_eq_true (by kernel_rfl)) ?_
  refine goC ?_
  simp -dsimp +decide (disch := first | omega | simp +decide only [ownpb0]) only [ownpb1, ↓brun_b, envOf, Nat.reduceAdd, Nat.reduceBEq, Frm.fc, sapp1_sl el5, sapp1_sl elN3, sapp1_sl elN23, h8, h9, h10, h11]
  refine SQ.runL (rs := [.cell 2 151]) [3, 5, 9, 7] _ _ rfl (And.intro rfl rfl) (by decide) rfl rfl ?_ ?_
  · simp -dsimp +decide (disch := first | omega | simp +decide only [ownpb0]) only [ownpb2, reduceIte, Nat.reduceAdd, ↓reduceIte]
    exact ⟨fun e he => own_tr he, fun e he => own_is he, fun e he => own_by he, fun e he => own_by he⟩
  · simp -dsimp +decide (disch := first | omega | simp +decide only [ownpb0]) only [ownpb3, ↓brun_b, reduceIte, Nat.reduceAdd, Nat.reduceBEq, ↓reduceIte]
end Go.Proofs
namespace Go.Proofs
open Go Go.SL
set_option maxRecDepth 100000
def bodyO (F : Frm) (a b c d : Nat) : SV :=
  match F.k with
  | 1 => .ifc 214 (.agg (H1.c ⟨.v (.int .i64 F.fi), .v (.int .i64 F.fn), .v (.int .i64 F.ti), .v (.int .i64 F.tn), F.a⟩))
  | 2 => .ifc 210 (.agg [.v (.int .i64 F.fi), .v (.int .i64 F.fn), .v (.int .i64 F.ti), .v (.int .i64 F.tn), .v (.int .i64 F.n), .slc d 0 F.tx.length])
  | 3 => .ifc 218 (.agg [.v (.int .i64 F.fi), .v (.int .i64 F.fn), .v (.int .i64 F.ti), .v (.int .i64 F.tn), .v (.int .i64 F.n)])
  | 4 => .ifc 226 (.agg (SU.c ⟨F.who, .v (.int .i64 F.pn), F.a, F.b, .slc a 0 F.tr.length⟩))
  | 5 => .ifc 230 (.agg (DR.c ⟨F.who, .v (.int .i64 F.pn)⟩))
  | 6 => .ifc 232 (.agg (PT.c ⟨F.who, .v (.int .i64 F.pn), .v (.bool F.toA)⟩))
  | 7 => .ifc 235 (.agg (PE.c ⟨F.who, .v (.int .i64 F.pn), .v (.bool F.toA), .slc b 0 F.is.length⟩))
  | 8 => .ifc 237 (.agg (AK.c ⟨F.a, F.b, .v (.int .i64 F.op), F.who, .v (.int .i64 F.pn), .v (.bool F.toA), .slc a 0 F.tr.length⟩))
  | 9 => .ifc 239 (.agg (AD.c ⟨F.a, .v (.int .i64 F.n)⟩))
  | 10 => .ifc 241 (.agg (PK.c ⟨F.a, F.b, .v (.int .i64 F.n), .v (.int .i64 F.op), .v (.int .i64 F.ttl), F.key, .v (.int .i64 F.vn), F.vwho, .slc c 0 F.val.length, .slc d 0 F.tx.length⟩))
  | 11 => .ifc 244 (.agg (CP.c ⟨F.who, .v (.int .i64 F.pn), .v (.bool F.toA), F.key, .v (.int .i64 F.vn), F.vwho, .slc c 0 F.val.length⟩))
  | _ => .ifc 246 (.agg (GT.c ⟨F.who, .v (.int .i64 F.pn), .v (.bool F.toA), F.key, .v (.int .i64 F.vn), F.vwho⟩))
def bodyV (F : Frm) : SV :=
  match F.k with
  | 1 => .ifc 214 (.agg (H1.c ⟨.v (.int .i64 F.fi), .v (.int .i64 F.fn), .v (.int .i64 F.ti), .v (.int .i64 F.tn), F.a⟩))
  | 2 => .ifc 210 (.agg [.v (.int .i64 F.fi), .v (.int .i64 F.fn), .v (.int .i64 F.ti), .v (.int .i64 F.tn), .v (.int .i64 F.n), bsl F.tx])
  | 3 => .ifc 218 (.agg [.v (.int .i64 F.fi), .v (.int .i64 F.fn), .v (.int .i64 F.ti), .v (.int .i64 F.tn), .v (.int .i64 F.n)])
  | 4 => .ifc 226 (.agg (SU.c ⟨F.who, .v (.int .i64 F.pn), F.a, F.b, .rsl 1 (lrows F.tr)⟩))
  | 5 => .ifc 230 (.agg (DR.c ⟨F.who, .v (.int .i64 F.pn)⟩))
  | 6 => .ifc 232 (.agg (PT.c ⟨F.who, .v (.int .i64 F.pn), .v (.bool F.toA)⟩))
  | 7 => .ifc 235 (.agg (PE.c ⟨F.who, .v (.int .i64 F.pn), .v (.bool F.toA), .rsl 16 (idrs F.is)⟩))
  | 8 => .ifc 237 (.agg (AK.c ⟨F.a, F.b, .v (.int .i64 F.op), F.who, .v (.int .i64 F.pn), .v (.bool F.toA), .rsl 1 (lrows F.tr)⟩))
  | 9 => .ifc 239 (.agg (AD.c ⟨F.a, .v (.int .i64 F.n)⟩))
  | 10 => .ifc 241 (.agg (PK.c ⟨F.a, F.b, .v (.int .i64 F.n), .v (.int .i64 F.op), .v (.int .i64 F.ttl), F.key, .v (.int .i64 F.vn), F.vwho, bsl F.val, bsl F.tx⟩))
  | 11 => .ifc 244 (.agg (CP.c ⟨F.who, .v (.int .i64 F.pn), .v (.bool F.toA), F.key, .v (.int .i64 F.vn), F.vwho, bsl F.val⟩))
  | _ => .ifc 246 (.agg (GT.c ⟨F.who, .v (.int .i64 F.pn), .v (.bool F.toA), F.key, .v (.int .i64 F.vn), F.vwho⟩))
def ownpb4 :=
  (aI (aI (aI ownpc3 ownpc5) (aI @FC.c_length (aI @I16.c_length @IC.at_val))) (aI (aI @IC.c_length @IC.part) (aI @IC.set_all (aI @IC.set_val @al149))))
def ownpb5 :=
  (aI (aI (aI ownpc3 ownpc5) (aI @FC.c_length (aI @I16.c_length @IC.at_val))) (aI (aI @IC.c_length (aI @bwk_a @eq_self.{1})) (aI @forall_const.{1} (aI @implies_true.{0} @implies_true.{1}))))
def ownpb6 :=
  (aI (aI (aI ownpc3 (aI ownpc5 @FC.c_length)) (aI (aI @I16.c_length @IC.at_val) (aI @IC.c_length @IC.ent))) (aI (aI @IC.part (aI @IC.set_all @bwk_a)) (aI (aI @eq_self.{1} @forall_const.{1}) (aI @implies_true.{0} @implies_true.{1}))))
theorem item_own (key vwho : I16) (vn : Int) (val : List UInt8) (h : val.length ≤ 140737488355328) : SCall Try.prog 167 [.agg (IC.c ⟨key, .v (.int .i64 vn), vwho, bsl val⟩)] [] fun r L => r = .ret (.agg (IC.c ⟨key, .v (.int .i64 vn), vwho, .slc 0 0 val.length⟩)) ∧ L = [bytR val] := by
  unfold bytR
  refine SCall.mk (fn := Try.f167) (by kernel_rfl) rfl (Nat.le_of_ble_eq_true (by kernel_rfl)) ?_
  refine goC ?_
  simp -dsimp +decide (disch := first | omega | simp +decide only [ownpb0]) only [ownpb4, ↓brun_b, envOf, Nat.reduceAdd, Nat.reduceBEq, sapp1_sl el5, h]
  refine SQ.runL (rs := [.cell 2 149]) [2] _ _ rfl (And.intro rfl rfl) (by decide) rfl rfl ?_ ?_
  · simp -dsimp +decide (disch := first | omega | simp +decide only [ownpb0]) only [ownpb5, reduceIte, Nat.reduceAdd, ↓reduceIte]
    exact fun e he => own_by he
  · simp -dsimp +decide (disch := first | omega | simp +decide only [ownpb0]) only [ownpb6, ↓brun_b, reduceIte, Nat.reduceAdd, Nat.reduceBEq, ↓reduceIte]
def ownpc7 :=
  (aI (aI (aI @AK.ent (aI @CP.ent @PE.ent)) (aI (aI @PK.ent @SU.ent) (aI @build226 @build235))) (aI (aI (aI @build237 @build241) (aI @build244 @mk226)) (aI (aI @mk235 @mk237) (aI @mk241 @mk244))))
def ownpc8 :=
  (aI (aI (aI (aI (aI @tab.f210x0 @tab.f210x1) (aI @tab.f210x2 @tab.f210x3)) (aI (aI @tab.f226x0 @tab.f226x1) (aI @tab.f226x2 @tab.f226x3))) (aI (aI (aI @tab.f235x0 @tab.f235x1) (aI @tab.f235x2 @tab.f237x0)) (aI (aI @tab.f237x1 @tab.f237x2) (aI @tab.f237x3 @tab.f237x4)))) (aI (aI (aI (aI @tab.f237x5 @tab.f241x0) (aI @tab.f241x1 @tab.f241x2)) (aI (aI @tab.f241x3 @tab.f241x4) (aI @tab.f241x5 @tab.f241x6))) (aI (aI (aI @tab.f244x0 @tab.f244x1) (aI @tab.f244x2 @tab.s210)) (aI (aI @tab.s226 @tab.s235) (aI @tab.s237 (aI @tab.s241 @tab.s244))))))
def ownpb7 :=
  (aI (aI (aI ownpc7 ownpc2) (aI ownpc3 (aI ownpc5 ownpc6))) (aI (aI ownpc8 (aI @FC.c_length @I16.c_length)) (aI @IC.at_val (aI @IC.c_length @IC.ent))))
def ownpb8 :=
  (aI (aI (aI @List.length_cons.{0} @List.length_nil.{0}) (aI @Nat.zero_add @roL_in)) (aI (aI @roL_nil @roL_none) (aI @roL_row @ro_mk)))
def ownpb9 :=
  (aI (aI (aI ownpc7 (aI ownpc2 ownpc3)) (aI (aI ownpc5 ownpc6) (aI ownpc8 @FC.c_length))) (aI (aI @I16.c_length (aI @IC.at_val @IC.c_length)) (aI (aI @IC.ent @bl210) (aI @idrs_len @lrows_length))))
def ownpb10 :=
  (aI (aI ownpc2 (aI ownpc3 ownpc5)) (aI (aI ownpc6 ownpc8) (aI @FC.c_length @I16.c_length)))
def ownpb11 :=
  (aI (aI (aI ownpc3 ownpc5) (aI ownpc6 (aI ownpc8 @FC.c_length))) (aI (aI @I16.c_length (aI @bwk_a @eq_self.{1})) (aI @forall_const.{1} (aI @implies_true.{0} @implies_true.{1}))))
def ownpb12 :=
  (aI (aI (aI ownpc7 (aI ownpc2 ownpc3)) (aI (aI ownpc5 ownpc6) (aI ownpc8 @FC.c_length))) (aI (aI @I16.c_length (aI @IC.ent @bwk_a)) (aI (aI @eq_self.{1} @forall_const.{1}) (aI @implies_true.{0} @implies_true.{1}))))
theorem ofR_2 (F : Frm) (hk : F.kind = 2) (h10 : F.tx.length ≤ 140737488355328) : SCall Try.prog 119 [.agg F.fc.c] [] fun r L => r = .ret (.tup [.ifc 210 (.agg [.v (.int .i64 F.fi), .v (.int .i64 F.fn), .v (.int .i64 F.ti), .v (.int .i64 F.tn), .v (.int .i64 F.n), .slc 0 0 F.tx.length]), .v (.bool true)]) ∧ L = [bytR F.tx] := by
  unfold bytR
  refine SCall.mk (fn := Try.f119) (by kernel_rfl) rfl (Nat.le_of_ble_eq_true (by kernel_rfl)) ?_
  refine goC ?_
  simp -dsimp +decide (disch := first | omega | simp +decide only [ownpb0]) only [ownpb7, ↓brun_b, envOf, Nat.reduceBEq, Frm.fc, hk]
  refine Sem.draw' (by kernel_rfl) (.one 0 (.one 1 (.one 2 (.one 3 (.one 4 (.one 5 (.one 6 (.one 7 (.alt 8 (.one 9 (.one 10 (.one 11 (.one 12 .done)))) .non))))))))) [] (by kernel_rfl) (fun G ff hG hf => ?_)
  simp +decide only [ownpb8] at hG ⊢
  simp -dsimp +decide (disch := first | omega | simp +decide only [ownpb0]) only [ownpb9, ↓brun_b, Nat.reduceAdd, Nat.reduceBEq, hG, sapp1_sl el5, h10]
  refine hf _ (Sem.go (k := 1000) ?_)
  simp +decide only [back_mk, backL_row, backL_nil, Nat.zero_add]
  simp -dsimp +decide (disch := first | omega | simp +decide only [ownpb0]) only [ownpb10]
  refine SQ.runL (rs := [.tmp 2, .tmp 3]) [1] _ _ rfl (And.intro rfl rfl) (by decide) rfl rfl ?_ ?_
  · simp -dsimp +decide (disch := first | omega | simp +decide only [ownpb0]) only [ownpb11, reduceIte, Nat.reduceAdd, ↓reduceIte]
    exact fun e he => own_by he
  · simp -dsimp +decide (disch := first | omega | simp +decide only [ownpb0]) only [ownpb12, ↓brun_b, reduceIte, Nat.reduceAdd, Nat.reduceBEq, ↓reduceIte]
theorem ofR_4 (F : Frm) (hk : F.kind = 4) (h8 : F.tr.length * 8 ≤ 140737488355328) : SCall Try.prog 119 [.agg F.fc.c] [] fun r L => r = .ret (.tup [.ifc 226 (.agg (SU.c ⟨F.who, .v (.int .i64 F.pn), F.a, F.b, .slc 0 0 F.tr.length⟩)), .v (.bool true)]) ∧ L = [trR F] := by
  unfold trR
  refine SCall.mk (fn := Try.f119) (by kernel_rfl) rfl (Nat.le_of_ble_eq_true (by kernel_rfl)) ?_
  refine goC ?_
  simp -dsimp +decide (disch := first | omega | simp +decide only [ownpb0]) only [ownpb7, ↓brun_b, envOf, Nat.reduceBEq, Frm.fc, hk]
  refine Sem.draw' (by kernel_rfl) (.one 0 (.one 1 (.one 2 (.one 3 (.one 4 (.one 5 (.one 6 (.one 7 (.alt 8 (.one 9 (.one 10 (.one 11 (.one 12 .done)))) .non))))))))) [] (by kernel_rfl) (fun G ff hG hf => ?_)
  simp +decide only [ownpb8] at hG ⊢
  simp -dsimp +decide (disch := first | omega | simp +decide only [ownpb0]) only [ownpb9, ↓brun_b, Nat.reduceAdd, Nat.reduceBEq, hG, sapp1_sl elN3, h8]
  refine hf _ (Sem.go (k := 1000) ?_)
  simp +decide only [back_mk, backL_row, backL_nil, Nat.zero_add]
  simp -dsimp +decide (disch := first | omega | simp +decide only [ownpb0]) only [ownpb10]
  refine SQ.runL (rs := [.tmp 2, .tmp 3]) [1] _ _ rfl (And.intro rfl rfl) (by decide) rfl rfl ?_ ?_
  · simp -dsimp +decide (disch := first | omega | simp +decide only [ownpb0]) only [ownpb11, reduceIte, Nat.reduceAdd, ↓reduceIte]
    exact fun e he => own_tr he
  · simp -dsimp +decide (disch := first | omega | simp +decide only [ownpb0]) only [ownpb12, ↓brun_b, reduceIte, Nat.reduceAdd, Nat.reduceBEq, ↓reduceIte]
theorem ofR_7 (F : Frm) (hk : F.kind = 7) (h9 : F.is.length * 16 ≤ 140737488355328) : SCall Try.prog 119 [.agg F.fc.c] [] fun r L => r = .ret (.tup [.ifc 235 (.agg (PE.c ⟨F.who, .v (.int .i64 F.pn), .v (.bool F.toA), .slc 0 0 F.is.length⟩)), .v (.bool true)]) ∧ L = [isR F] := by
  unfold isR
  refine SCall.mk (fn := Try.f119) (by kernel_rfl) rfl (Nat.le_of_ble_eq_true (by kernel_rfl)) ?_
  refine goC ?_
  simp -dsimp +decide (disch := first | omega | simp +decide only [ownpb0]) only [ownpb7, ↓brun_b, envOf, Nat.reduceBEq, Frm.fc, hk]
  refine Sem.draw' (by kernel_rfl) (.one 0 (.one 1 (.one 2 (.one 3 (.one 4 (.one 5 (.alt 6 (.one 7 (.one 8 (.one 9 (.one 10 .done)))) .non))))))) [] (by kernel_rfl) (fun G ff hG hf => ?_)
  simp +decide only [ownpb8] at hG ⊢
  simp -dsimp +decide (disch := first | omega | simp +decide only [ownpb0]) only [ownpb9, ↓brun_b, Nat.reduceAdd, Nat.reduceBEq, hG, sapp1_sl elN23, h9]
  refine hf _ (Sem.go (k := 1000) ?_)
  simp +decide only [back_mk, backL_row, backL_nil, Nat.zero_add]
  simp -dsimp +decide (disch := first | omega | simp +decide only [ownpb0]) only [ownpb10]
  refine SQ.runL (rs := [.tmp 2, .tmp 3]) [1] _ _ rfl (And.intro rfl rfl) (by decide) rfl rfl ?_ ?_
  · simp -dsimp +decide (disch := first | omega | simp +decide only [ownpb0]) only [ownpb11, reduceIte, Nat.reduceAdd, ↓reduceIte]
    exact fun e he => own_is he
  · simp -dsimp +decide (disch := first | omega | simp +decide only [ownpb0]) only [ownpb12, ↓brun_b, reduceIte, Nat.reduceAdd, Nat.reduceBEq, ↓reduceIte]
theorem ofR_8 (F : Frm) (hk : F.kind = 8) (h8 : F.tr.length * 8 ≤ 140737488355328) : SCall Try.prog 119 [.agg F.fc.c] [] fun r L => r = .ret (.tup [.ifc 237 (.agg (AK.c ⟨F.a, F.b, .v (.int .i64 F.op), F.who, .v (.int .i64 F.pn), .v (.bool F.toA), .slc 0 0 F.tr.length⟩)), .v (.bool true)]) ∧ L = [trR F] := by
  unfold trR
  refine SCall.mk (fn := Try.f119) (by kernel_rfl) rfl (Nat.le_of_ble_eq_true (by kernel_rfl)) ?_
  refine goC ?_
  simp -dsimp +decide (disch := first | omega | simp +decide only [ownpb0]) only [ownpb7, ↓brun_b, envOf, Nat.reduceBEq, Frm.fc, hk]
  refine Sem.draw' (by kernel_rfl) (.one 0 (.one 1 (.one 2 (.one 3 (.one 4 (.one 5 (.one 6 (.one 7 (.one 8 (.one 9 (.one 10 (.one 11 (.alt 12 (.one 13 (.one 14 (.one 15 (.one 16 .done)))) .non))))))))))))) [] (by kernel_rfl) (fun G ff hG hf => ?_)
  simp +decide only [ownpb8] at hG ⊢
  simp -dsimp +decide (disch := first | omega | simp +decide only [ownpb0]) only [ownpb9, ↓brun_b, Nat.reduceAdd, Nat.reduceBEq, hG, sapp1_sl elN3, h8]
  refine hf _ (Sem.go (k := 1000) ?_)
  simp +decide only [back_mk, backL_row, backL_nil, Nat.zero_add]
  simp -dsimp +decide (disch := first | omega | simp +decide only [ownpb0]) only [ownpb10]
  refine SQ.runL (rs := [.tmp 2, .tmp 3]) [1] _ _ rfl (And.intro rfl rfl) (by decide) rfl rfl ?_ ?_
  · simp -dsimp +decide (disch := first | omega | simp +decide only [ownpb0]) only [ownpb11, reduceIte, Nat.reduceAdd, ↓reduceIte]
    exact fun e he => own_tr he
  · simp -dsimp +decide (disch := first | omega | simp +decide only [ownpb0]) only [ownpb12, ↓brun_b, reduceIte, Nat.reduceAdd, Nat.reduceBEq, ↓reduceIte]
def ownpb13 :=
  (aI ownpc5 (aI ownpc6 ownpc8))
def ownpb14 :=
  (aI (aI (aI ownpc7 (aI ownpc2 ownpc3)) (aI (aI ownpc5 ownpc6) (aI ownpc8 @FC.c_length))) (aI (aI (aI @I16.c_length @IC.at_val) (aI @IC.c_length @IC.ent)) (aI (aI @IC.renc @bl210) (aI @idrs_len @lrows_length))))
theorem ofR_10 (F : Frm) (hk : F.kind = 10) (h11 : F.val.length ≤ 140737488355328) (h10 : F.tx.length ≤ 140737488355328) : SCall Try.prog 119 [.agg F.fc.c] [] fun r L => r = .ret (.tup [.ifc 241 (.agg (PK.c ⟨F.a, F.b, .v (.int .i64 F.n), .v (.int .i64 F.op), .v (.int .i64 F.ttl), F.key, .v (.int .i64 F.vn), F.vwho, .slc 0 0 F.val.length, .slc 1 0 F.tx.length⟩)), .v (.bool true)]) ∧ L = [bytR F.val, bytR F.tx] := by
  unfold bytR
  refine SCall.mk (fn := Try.f119) (by kernel_rfl) rfl (Nat.le_of_ble_eq_true (by kernel_rfl)) ?_
  refine goC ?_
  simp -dsimp +decide (disch := first | omega | simp +decide only [ownpb0]) only [ownpb7, ↓brun_b, envOf, Nat.reduceBEq, Frm.fc, hk]
  refine Sem.draw' (by kernel_rfl) (.one 0 (.one 1 (.one 2 (.one 3 (.one 4 (.one 5 (.one 6 (.one 7 (.one 8 (.one 9 (.one 10 (.one 11 (.one 13 (.one 14 (.alt 12 (.alt 15 (.one 16 (.one 17 (.one 18 (.one 19 .done)))) .non) .non))))))))))))))) [] (by kernel_rfl) (fun G ff hG hf => ?_)
  simp +decide only [ownpb8] at hG ⊢
  simp -dsimp +decide (disch := first | omega | simp +decide only [ownpb0]) only [ownpb9, ↓brun_b, Nat.reduceBEq, hG]
  have hi := item_own F.key F.vwho F.vn F.val h11
  unfold bytR at hi
  refine OpSem.callw [] cal.f167 (hi) rfl rfl (by simp -dsimp +decide (disch := first | omega | simp +decide only [ownpb0]) only [ownpb11, ↓brun_b, Nat.reduceBEq, rho]) rfl (by simp -dsimp +decide (disch := first | omega | simp +decide only [ownpb0]) only [ownpb11, rho]) (dK rfl) ?_
  simp -dsimp +decide (disch := first | omega | simp +decide only [ownpb0]) only [ownpb14, ↓brun_b, Nat.reduceAdd, Nat.reduceBEq, rho, sapp1_sl el5, h10]
  refine hf _ (Sem.go (k := 1000) ?_)
  simp +decide only [back_mk, backL_row, backL_nil, Nat.zero_add]
  simp -dsimp +decide (disch := first | omega | simp +decide only [ownpb0]) only [ownpb10]
  refine SQ.runL (rs := [.tmp 2, .tmp 3]) [1, 2] _ _ rfl (And.intro rfl rfl) (by decide) rfl rfl ?_ ?_
  · simp -dsimp +decide (disch := first | omega | simp +decide only [ownpb0]) only [ownpb11, reduceIte, Nat.reduceAdd, ↓reduceIte]
    exact fun e he => own_by he
  · simp -dsimp +decide (disch := first | omega | simp +decide only [ownpb0]) only [ownpb12, ↓brun_b, reduceIte, Nat.reduceAdd, Nat.reduceBEq, ↓reduceIte]
theorem ofR_11 (F : Frm) (hk : F.kind = 11) (h11 : F.val.length ≤ 140737488355328) : SCall Try.prog 119 [.agg F.fc.c] [] fun r L => r = .ret (.tup [.ifc 244 (.agg (CP.c ⟨F.who, .v (.int .i64 F.pn), .v (.bool F.toA), F.key, .v (.int .i64 F.vn), F.vwho, .slc 0 0 F.val.length⟩)), .v (.bool true)]) ∧ L = [bytR F.val] := by
  unfold bytR
  refine SCall.mk (fn := Try.f119) (by kernel_rfl) rfl (Nat.le_of_ble_eq_true (by kernel_rfl)) ?_
  refine goC ?_
  simp -dsimp +decide (disch := first | omega | simp +decide only [ownpb0]) only [ownpb7, ↓brun_b, envOf, Nat.reduceBEq, Frm.fc, hk]
  refine Sem.draw' (by kernel_rfl) (.one 0 (.one 1 (.one 2 (.one 3 (.one 4 (.one 5 (.alt 6 (.one 7 (.one 8 (.one 9 (.one 10 .done)))) .non))))))) [] (by kernel_rfl) (fun G ff hG hf => ?_)
  simp +decide only [ownpb8] at hG ⊢
  simp -dsimp +decide (disch := first | omega | simp +decide only [ownpb0]) only [ownpb9, ↓brun_b, Nat.reduceBEq, hG]
  have hi := item_own F.key F.vwho F.vn F.val h11
  unfold bytR at hi
  refine OpSem.callw [] cal.f167 (hi) rfl rfl (by simp -dsimp +decide (disch := first | omega | simp +decide only [ownpb0]) only [ownpb11, ↓brun_b, rho]) rfl (by simp -dsimp +decide (disch := first | omega | simp +decide only [ownpb0]) only [ownpb11, rho]) (dK rfl) ?_
  simp -dsimp +decide (disch := first | omega | simp +decide only [ownpb0]) only [ownpb14, ↓brun_b, Nat.reduceAdd, Nat.reduceBEq, rho]
  refine hf _ (Sem.go (k := 1000) ?_)
  simp +decide only [back_mk, backL_row, backL_nil, Nat.zero_add]
  simp -dsimp +decide (disch := first | omega | simp +decide only [ownpb0]) only [ownpb10]
  refine SQ.runL (rs := [.tmp 2, .tmp 3]) [1] _ _ rfl (And.intro rfl rfl) (by decide) rfl rfl ?_ ?_
  · simp -dsimp +decide (disch := first | omega | simp +decide only [ownpb0]) only [ownpb11, Nat.reduceAdd]
  · simp -dsimp +decide (disch := first | omega | simp +decide only [ownpb0]) only [ownpb12, ↓brun_b, Nat.reduceAdd, Nat.reduceBEq]
theorem idr_flat (l : List I16) (e : Nat) : SV.flatL ((idrs l).getD e []) = true := by
  by_cases h : e < l.length
  · rw [idrs_at l e h I16.zero]; exact I16.flat _
  · rw [List.getD_eq_getElem?_getD, List.getElem?_eq_none (by rw [idrs_len]; omega)]; rfl
theorem ofO_1 (F : Frm) (hk : F.kind = 1)  : SCall Try.prog 119 [.agg F.fc.c] [] fun r L => r = .ret (.tup [bodyO (bare 1 F) 0 1 2 3, .v (.bool true)]) ∧ L = ownR (bare 1 F) := by
  have h := of_hello F hk
  unfold Go.SL.Pure at h
  have h := SCall.ghostN 1 true 3 (lrow (bare 1 F).tr) h
  have h := SCall.ghostN 16 true 23 (fun e => (idrs (bare 1 F).is).getD e []) h
  have h := SCall.ghostN 1 true 5 (brow (bare 1 F).val) h
  have h := SCall.ghostN 1 true 5 (brow (bare 1 F).tx) h
  exact h
theorem ofO_2 (F : Frm) (hk : F.kind = 2) (h10 : F.tx.length ≤ 140737488355328) : SCall Try.prog 119 [.agg F.fc.c] [] fun r L => r = .ret (.tup [bodyO (bare 2 F) 0 1 2 3, .v (.bool true)]) ∧ L = ownR (bare 2 F) := by
  have h := ofR_2 F hk h10
  have h := SCall.ghostN 1 true 3 (lrow (bare 2 F).tr) h
  have h := SCall.ghostN 16 true 23 (fun e => (idrs (bare 2 F).is).getD e []) h
  have h := SCall.ghostN 1 true 5 (brow (bare 2 F).val) h
  refine SCall.tell (x' := .tup [.ifc 210 (.agg [.v (.int .i64 F.fi), .v (.int .i64 F.fn), .v (.int .i64 F.ti), .v (.int .i64 F.tn), .v (.int .i64 F.n), .slc 3 0 F.tx.length]), .v (.bool true)]) (L' := ownR (bare 2 F)) [1, 2, 3, 0] h ⟨rfl, rfl, rfl, rfl, rfl, rfl, ⟨?_, trivial⟩, ?_⟩
  · simp -dsimp +decide (disch := first | omega | simp +decide only [ownpb0]) only [ownpb12, ↓brun_b, Nat.reduceAdd]
  · exact ⟨EntK_flat fun e => lrow_flat _ _, EntK_flat fun e => idr_flat _ _, EntK_flat fun e => brow_flat _ _, EntK_flat fun e => brow_flat _ _, trivial⟩
theorem ofO_3 (F : Frm) (hk : F.kind = 3)  : SCall Try.prog 119 [.agg F.fc.c] [] fun r L => r = .ret (.tup [bodyO (bare 3 F) 0 1 2 3, .v (.bool true)]) ∧ L = ownR (bare 3 F) := by
  have h := of_ack F hk
  unfold Go.SL.Pure at h
  have h := SCall.ghostN 1 true 3 (lrow (bare 3 F).tr) h
  have h := SCall.ghostN 16 true 23 (fun e => (idrs (bare 3 F).is).getD e []) h
  have h := SCall.ghostN 1 true 5 (brow (bare 3 F).val) h
  have h := SCall.ghostN 1 true 5 (brow (bare 3 F).tx) h
  exact h
theorem ofO_4 (F : Frm) (hk : F.kind = 4) (h8 : F.tr.length * 8 ≤ 140737488355328) : SCall Try.prog 119 [.agg F.fc.c] [] fun r L => r = .ret (.tup [bodyO (bare 4 F) 0 1 2 3, .v (.bool true)]) ∧ L = ownR (bare 4 F) := by
  have h := ofR_4 F hk h8
  have h := SCall.ghostN 16 true 23 (fun e => (idrs (bare 4 F).is).getD e []) h
  have h := SCall.ghostN 1 true 5 (brow (bare 4 F).val) h
  have h := SCall.ghostN 1 true 5 (brow (bare 4 F).tx) h
  exact h
theorem ofO_5 (F : Frm) (hk : F.kind = 5)  : SCall Try.prog 119 [.agg F.fc.c] [] fun r L => r = .ret (.tup [bodyO (bare 5 F) 0 1 2 3, .v (.bool true)]) ∧ L = ownR (bare 5 F) := by
  have h := of_k5 F hk
  unfold Go.SL.Pure at h
  have h := SCall.ghostN 1 true 3 (lrow (bare 5 F).tr) h
  have h := SCall.ghostN 16 true 23 (fun e => (idrs (bare 5 F).is).getD e []) h
  have h := SCall.ghostN 1 true 5 (brow (bare 5 F).val) h
  have h := SCall.ghostN 1 true 5 (brow (bare 5 F).tx) h
  exact h
theorem ofO_6 (F : Frm) (hk : F.kind = 6)  : SCall Try.prog 119 [.agg F.fc.c] [] fun r L => r = .ret (.tup [bodyO (bare 6 F) 0 1 2 3, .v (.bool true)]) ∧ L = ownR (bare 6 F) := by
  have h := of_k6 F hk
  unfold Go.SL.Pure at h
  have h := SCall.ghostN 1 true 3 (lrow (bare 6 F).tr) h
  have h := SCall.ghostN 16 true 23 (fun e => (idrs (bare 6 F).is).getD e []) h
  have h := SCall.ghostN 1 true 5 (brow (bare 6 F).val) h
  have h := SCall.ghostN 1 true 5 (brow (bare 6 F).tx) h
  exact h
theorem ofO_7 (F : Frm) (hk : F.kind = 7) (h9 : F.is.length * 16 ≤ 140737488355328) : SCall Try.prog 119 [.agg F.fc.c] [] fun r L => r = .ret (.tup [bodyO (bare 7 F) 0 1 2 3, .v (.bool true)]) ∧ L = ownR (bare 7 F) := by
  have h := ofR_7 F hk h9
  have h := SCall.ghostN 1 true 3 (lrow (bare 7 F).tr) h
  have h := SCall.ghostN 1 true 5 (brow (bare 7 F).val) h
  have h := SCall.ghostN 1 true 5 (brow (bare 7 F).tx) h
  refine SCall.tell (x' := .tup [.ifc 235 (.agg (PE.c ⟨F.who, .v (.int .i64 F.pn), .v (.bool F.toA), .slc 1 0 F.is.length⟩)), .v (.bool true)]) (L' := ownR (bare 7 F)) [1, 0, 2, 3] h ⟨rfl, rfl, rfl, rfl, rfl, rfl, ⟨?_, trivial⟩, ?_⟩
  · simp -dsimp +decide (disch := first | omega | simp +decide only [ownpb0]) only [ownpb12, ↓brun_b, Nat.reduceAdd]
  · exact ⟨EntK_flat fun e => lrow_flat _ _, EntK_flat fun e => idr_flat _ _, EntK_flat fun e => brow_flat _ _, EntK_flat fun e => brow_flat _ _, trivial⟩
theorem ofO_8 (F : Frm) (hk : F.kind = 8) (h8 : F.tr.length * 8 ≤ 140737488355328) : SCall Try.prog 119 [.agg F.fc.c] [] fun r L => r = .ret (.tup [bodyO (bare 8 F) 0 1 2 3, .v (.bool true)]) ∧ L = ownR (bare 8 F) := by
  have h := ofR_8 F hk h8
  have h := SCall.ghostN 16 true 23 (fun e => (idrs (bare 8 F).is).getD e []) h
  have h := SCall.ghostN 1 true 5 (brow (bare 8 F).val) h
  have h := SCall.ghostN 1 true 5 (brow (bare 8 F).tx) h
  exact h
theorem ofO_9 (F : Frm) (hk : F.kind = 9)  : SCall Try.prog 119 [.agg F.fc.c] [] fun r L => r = .ret (.tup [bodyO (bare 9 F) 0 1 2 3, .v (.bool true)]) ∧ L = ownR (bare 9 F) := by
  have h := of_k9 F hk
  unfold Go.SL.Pure at h
  have h := SCall.ghostN 1 true 3 (lrow (bare 9 F).tr) h
  have h := SCall.ghostN 16 true 23 (fun e => (idrs (bare 9 F).is).getD e []) h
  have h := SCall.ghostN 1 true 5 (brow (bare 9 F).val) h
  have h := SCall.ghostN 1 true 5 (brow (bare 9 F).tx) h
  exact h
theorem ofO_10 (F : Frm) (hk : F.kind = 10) (h11 : F.val.length ≤ 140737488355328) (h10 : F.tx.length ≤ 140737488355328) : SCall Try.prog 119 [.agg F.fc.c] [] fun r L => r = .ret (.tup [bodyO (bare 10 F) 0 1 2 3, .v (.bool true)]) ∧ L = ownR (bare 10 F) := by
  have h := ofR_10 F hk h11 h10
  have h := SCall.ghostN 1 true 3 (lrow (bare 10 F).tr) h
  have h := SCall.ghostN 16 true 23 (fun e => (idrs (bare 10 F).is).getD e []) h
  refine SCall.tell (x' := .tup [.ifc 241 (.agg (PK.c ⟨F.a, F.b, .v (.int .i64 F.n), .v (.int .i64 F.op), .v (.int .i64 F.ttl), F.key, .v (.int .i64 F.vn), F.vwho, .slc 2 0 F.val.length, .slc 3 0 F.tx.length⟩)), .v (.bool true)]) (L' := ownR (bare 10 F)) [2, 3, 0, 1] h ⟨rfl, rfl, rfl, rfl, rfl, rfl, ⟨?_, trivial⟩, ?_⟩
  · simp -dsimp +decide (disch := first | omega | simp +decide only [ownpb0]) only [ownpb12, ↓brun_b, Nat.reduceAdd]
  · exact ⟨EntK_flat fun e => lrow_flat _ _, EntK_flat fun e => idr_flat _ _, EntK_flat fun e => brow_flat _ _, EntK_flat fun e => brow_flat _ _, trivial⟩
theorem ofO_11 (F : Frm) (hk : F.kind = 11) (h11 : F.val.length ≤ 140737488355328) : SCall Try.prog 119 [.agg F.fc.c] [] fun r L => r = .ret (.tup [bodyO (bare 11 F) 0 1 2 3, .v (.bool true)]) ∧ L = ownR (bare 11 F) := by
  have h := ofR_11 F hk h11
  have h := SCall.ghostN 1 true 3 (lrow (bare 11 F).tr) h
  have h := SCall.ghostN 16 true 23 (fun e => (idrs (bare 11 F).is).getD e []) h
  have h := SCall.ghostN 1 true 5 (brow (bare 11 F).tx) h
  refine SCall.tell (x' := .tup [.ifc 244 (.agg (CP.c ⟨F.who, .v (.int .i64 F.pn), .v (.bool F.toA), F.key, .v (.int .i64 F.vn), F.vwho, .slc 2 0 F.val.length⟩)), .v (.bool true)]) (L' := ownR (bare 11 F)) [1, 2, 0, 3] h ⟨rfl, rfl, rfl, rfl, rfl, rfl, ⟨?_, trivial⟩, ?_⟩
  · simp -dsimp +decide (disch := first | omega | simp +decide only [ownpb0]) only [ownpb12, ↓brun_b, Nat.reduceAdd]
  · exact ⟨EntK_flat fun e => lrow_flat _ _, EntK_flat fun e => idr_flat _ _, EntK_flat fun e => brow_flat _ _, EntK_flat fun e => brow_flat _ _, trivial⟩
theorem ofO_12 (F : Frm) (hk : F.kind = 12)  : SCall Try.prog 119 [.agg F.fc.c] [] fun r L => r = .ret (.tup [bodyO (bare 12 F) 0 1 2 3, .v (.bool true)]) ∧ L = ownR (bare 12 F) := by
  have h := of_k12 F hk
  unfold Go.SL.Pure at h
  have h := SCall.ghostN 1 true 3 (lrow (bare 12 F).tr) h
  have h := SCall.ghostN 16 true 23 (fun e => (idrs (bare 12 F).is).getD e []) h
  have h := SCall.ghostN 1 true 5 (brow (bare 12 F).val) h
  have h := SCall.ghostN 1 true 5 (brow (bare 12 F).tx) h
  exact h
theorem of_own (F : Frm) (hw : F.wf) (hg : good F) : SCall Try.prog 119 [.agg F.fc.c] [] fun r L => r = .ret (.tup [bodyO F 0 1 2 3, .v (.bool true)]) ∧ L = ownR F := by
  have h8 : F.tr.length * 8 ≤ 140737488355328 := wfC hw
  have h9 : F.is.length * 16 ≤ 140737488355328 := wfD hw
  have h10 : F.tx.length ≤ 140737488355328 := wfB hw
  have h11 : F.val.length ≤ 140737488355328 := wfA hw
  obtain ⟨g1, g2, _, hs⟩ := hg
  have hk := k_cases ⟨g1, g2⟩
  have : F.k = 1 ∨ F.k = 2 ∨ F.k = 3 ∨ F.k = 4 ∨ F.k = 5 ∨ F.k = 6 ∨ F.k = 7 ∨ F.k = 8 ∨ F.k = 9 ∨ F.k = 10 ∨ F.k = 11 ∨ F.k = 12 := by omega
  rcases this with e | e | e | e | e | e | e | e | e | e | e | e <;> rw [e] at hs hk
  · have h := ofO_1 F hk
    rw [← hs] at h
    exact h
  · have h := ofO_2 F hk h10
    rw [← hs] at h
    exact h
  · have h := ofO_3 F hk
    rw [← hs] at h
    exact h
  · have h := ofO_4 F hk h8
    rw [← hs] at h
    exact h
  · have h := ofO_5 F hk
    rw [← hs] at h
    exact h
  · have h := ofO_6 F hk
    rw [← hs] at h
    exact h
  · have h := ofO_7 F hk h9
    rw [← hs] at h
    exact h
  · have h := ofO_8 F hk h8
    rw [← hs] at h
    exact h
  · have h := ofO_9 F hk
    rw [← hs] at h
    exact h
  · have h := ofO_10 F hk h11 h10
    rw [← hs] at h
    exact h
  · have h := ofO_11 F hk h11
    rw [← hs] at h
    exact h
  · have h := ofO_12 F hk
    rw [← hs] at h
    exact h
end Go.Proofs
namespace Go.Proofs
open Go Go.SL
set_option maxRecDepth 100000
theorem FC.put_trO (x : FC) (v : SV) : x.c.set 56 v = FC.c { x with tr := v } := by simp [FC.c, I16.c_length]
theorem FC.get_trO (x : FC) : x.c[56]? = some x.tr := by simp [FC.c, I16.c_length]
theorem FC.put_isO (x : FC) (v : SV) : x.c.set 57 v = FC.c { x with is := v } := by simp [FC.c, I16.c_length]
theorem FC.get_isO (x : FC) : x.c[57]? = some x.is := by simp [FC.c, I16.c_length]
theorem FC.put_val (x : FC) (v : SV) : x.c.set 91 v = FC.c { x with val := v } := by simp [FC.c, I16.c_length]
theorem FC.get_val (x : FC) : x.c[91]? = some x.val := by simp [FC.c, I16.c_length]
theorem FC.put_tx (x : FC) (v : SV) : x.c.set 94 v = FC.c { x with tx := v } := by simp [FC.c, I16.c_length]
theorem FC.get_tx (x : FC) : x.c[94]? = some x.tx := by simp [FC.c, I16.c_length]
theorem FC.entX {fz : Nat → Option SB} {ρ : Nat → Nat} (x y : FC) (ewho : x.who = y.who) (ea : x.a = y.a) (eb : x.b = y.b) (ekey : x.key = y.key) (evwho : x.vwho = y.vwho) (hkind : Ent fz ρ x.kind y.kind) (hpn : Ent fz ρ x.pn y.pn) (htoA : Ent fz ρ x.toA y.toA) (hn : Ent fz ρ x.n y.n) (hfi : Ent fz ρ x.fi y.fi) (hfn : Ent fz ρ x.fn y.fn) (hti : Ent fz ρ x.ti y.ti) (htn : Ent fz ρ x.tn y.tn) (htr : Ent fz ρ x.tr y.tr) (his : Ent fz ρ x.is y.is) (hvn : Ent fz ρ x.vn y.vn) (hval : Ent fz ρ x.val y.val) (hop : Ent fz ρ x.op y.op) (httl : Ent fz ρ x.ttl y.ttl) (htx : Ent fz ρ x.tx y.tx) : EntL fz ρ x.c y.c := by
  cases x
  cases y
  simp only at ewho ea eb ekey evwho
  subst ewho ea eb ekey evwho
  rw [FC.ent]
  exact ⟨hkind, hpn, htoA, hn, hfi, hfn, hti, htn, htr, his, hvn, hval, hop, httl, htx⟩
theorem gh_tr {f : FuncId} {args : List SV} {L L1 : List (Option SK)} (el : Nat → List SV) (X : FC) (hX : X.tr = .v (.slice none 0 0)) (hc : SCall Try.prog f args L fun r M => r = .ret (.agg X.c) ∧ M = L1) :
    SCall Try.prog f args L fun r M => r = .ret (.agg (FC.c { X with tr := .slc L1.length 0 0 })) ∧ M = L1 ++ [some (.row ⟨1, 0, true, 3, el⟩)] := by
  have h := SCall.ghostA 56 1 true 3 el (by rw [FC.get_trO, hX]) hc
  rw [FC.put_trO] at h
  exact h
theorem gh_is {f : FuncId} {args : List SV} {L L1 : List (Option SK)} (el : Nat → List SV) (X : FC) (hX : X.is = .v (.slice none 0 0)) (hc : SCall Try.prog f args L fun r M => r = .ret (.agg X.c) ∧ M = L1) :
    SCall Try.prog f args L fun r M => r = .ret (.agg (FC.c { X with is := .slc L1.length 0 0 })) ∧ M = L1 ++ [some (.row ⟨16, 0, true, 23, el⟩)] := by
  have h := SCall.ghostA 57 16 true 23 el (by rw [FC.get_isO, hX]) hc
  rw [FC.put_isO] at h
  exact h
theorem gh_val {f : FuncId} {args : List SV} {L L1 : List (Option SK)} (el : Nat → List SV) (X : FC) (hX : X.val = .v (.slice none 0 0)) (hc : SCall Try.prog f args L fun r M => r = .ret (.agg X.c) ∧ M = L1) :
    SCall Try.prog f args L fun r M => r = .ret (.agg (FC.c { X with val := .slc L1.length 0 0 })) ∧ M = L1 ++ [some (.row ⟨1, 0, true, 5, el⟩)] := by
  have h := SCall.ghostA 91 1 true 5 el (by rw [FC.get_val, hX]) hc
  rw [FC.put_val] at h
  exact h
theorem gh_tx {f : FuncId} {args : List SV} {L L1 : List (Option SK)} (el : Nat → List SV) (X : FC) (hX : X.tx = .v (.slice none 0 0)) (hc : SCall Try.prog f args L fun r M => r = .ret (.agg X.c) ∧ M = L1) :
    SCall Try.prog f args L fun r M => r = .ret (.agg (FC.c { X with tx := .slc L1.length 0 0 })) ∧ M = L1 ++ [some (.row ⟨1, 0, true, 5, el⟩)] := by
  have h := SCall.ghostA 94 1 true 5 el (by rw [FC.get_tx, hX]) hc
  rw [FC.put_tx] at h
  exact h
def ownpc9 :=
  (aI (aI (aI (aI (aI @AK.at_op @AK.at_toA) (aI @AK.at_tr @AK.part_P)) (aI (aI @AK.part_a @AK.part_b) (aI @AK.set_all (aI @CP.at_toA @CP.part_P)))) (aI (aI (aI @CP.part_it @CP.set_all) (aI @PE.at_is (aI @PE.at_toA @PE.part_P))) (aI (aI @PE.set_all @PK.at_n) (aI @PK.at_op (aI @PK.at_ttl @PK.at_tx))))) (aI (aI (aI (aI @PK.part_a @PK.part_b) (aI @PK.part_it @PK.set_all)) (aI (aI @SU.at_tr @SU.part_P) (aI @SU.part_a (aI @SU.part_b @SU.set_all)))) (aI (aI (aI @al226 @al235) (aI @al237 (aI @al241 @al244))) (aI (aI @hit226 @hit235) (aI @hit237 (aI @hit241 @hit244))))))
def ownpb15 :=
  (aI (aI (aI ownpc9 (aI ownpc0 ownpc3)) (aI (aI ownpc5 ownpc6) (aI ownpc8 @FC.c_length))) (aI (aI @FC.ent (aI @I16.c_length @IC.at_val)) (aI (aI @IC.c_length @al149) (aI @b151k2 @hit210))))
def ownpb16 :=
  (aI (aI (aI ownpc9 (aI ownpc0 ownpc3)) (aI ownpc5 (aI ownpc6 ownpc8))) (aI (aI @FC.c_length (aI @FC.ent @I16.c_length)) (aI (aI @IC.at_val @IC.c_length) (aI @al149 @b151k2))))
def ownpb17 :=
  (aI (aI (aI ownpc9 ownpc0) (aI ownpc2 (aI ownpc3 ownpc5))) (aI (aI ownpc6 (aI ownpc8 @FC.c_length)) (aI @FC.ent (aI @I16.c_length @al149))))
def ownpb18 :=
  (aI (aI (aI (aI ownpc9 ownpc0) (aI ownpc2 ownpc3)) (aI (aI ownpc5 ownpc6) (aI ownpc8 @FC.c_length))) (aI (aI (aI @FC.ent @I16.c_length) (aI @al149 @bwk_a)) (aI (aI @eq_self.{1} @forall_const.{1}) (aI @implies_true.{0} @implies_true.{1}))))
theorem plainR_2 (fi fn : Int) (ti tn : Int) (n : Int) (tx : List UInt8) (h10 : tx.length ≤ 140737488355328) : SCall Try.prog 123 [.ifc 210 (.agg ([.v (.int .i64 fi), .v (.int .i64 fn), .v (.int .i64 ti), .v (.int .i64 tn), .v (.int .i64 n), bsl tx]))] [] fun r L => r = .ret (.agg (FC.c { zF with kind := .v (.int .i64 2), fi := .v (.int .i64 fi), fn := .v (.int .i64 fn), ti := .v (.int .i64 ti), tn := .v (.int .i64 tn), n := .v (.int .i64 n), tx := .slc 0 0 tx.length })) ∧ L = [bytR tx] := by
  unfold bytR
  refine SCall.mk (fn := Try.f123) (by kernel_rfl) rfl (Nat.le_of_ble_eq_true (by kernel_rfl)) ?_
  refine goC ?_
  simp -dsimp +decide (disch := first | omega | simp +decide only [ownpb0]) only [ownpb15, ↓brun_b, envOf, Nat.reduceAdd, Nat.reduceBEq, fun v => miss214 210 v (by decide)]
  refine Sem.draw' (by kernel_rfl) (.one 0 (.one 1 (.one 2 (.one 3 (.one 4 (.one 5 (.one 6 (.one 7 (.alt 8 (.one 9 (.alt 10 .done .non)) .non))))))))) [0] (by kernel_rfl) (fun G ff hG hf => ?_)
  simp +decide only [ownpb8, Nat.reduceAdd] at hG ⊢
  simp -dsimp +decide (disch := first | omega | simp +decide only [ownpb0]) only [ownpb16, ↓brun_b, Nat.reduceAdd, Nat.reduceBEq, hG, sapp1_sl el5, h10]
  refine hf _ (Sem.go (k := 1000) ?_)
  simp +decide only [back_mk, backL_in, backL_row, backL_nil, Nat.zero_add, Nat.reduceAdd]
  simp -dsimp +decide (disch := first | omega | simp +decide only [ownpb0]) only [ownpb17]
  refine SQ.runL (rs := [.cell 2 151]) [2] _ _ rfl (And.intro rfl rfl) (by decide) rfl rfl ?_ ?_
  · simp -dsimp +decide (disch := first | omega | simp +decide only [ownpb0]) only [ownpb11, reduceIte, Nat.reduceAdd, ↓reduceIte]
    exact fun e he => own_by he
  · simp -dsimp +decide (disch := first | omega | simp +decide only [ownpb0]) only [ownpb18, ↓brun_b, reduceIte, Nat.reduceAdd, Nat.reduceBEq, ↓reduceIte]
def ownpb19 :=
  (aI (aI (aI ownpc9 (aI ownpc0 ownpc3)) (aI (aI ownpc5 ownpc6) (aI ownpc8 @FC.c_length))) (aI (aI @FC.ent (aI @I16.c_length @IC.at_val)) (aI (aI @IC.c_length @al149) (aI @b151k4 @hit210))))
def ownpb20 :=
  (aI (aI (aI ownpc9 (aI ownpc0 ownpc3)) (aI (aI ownpc5 ownpc6) (aI ownpc8 @FC.c_length))) (aI (aI @FC.ent (aI @I16.c_length @IC.at_val)) (aI (aI @IC.c_length @al149) (aI @b151k4 @lrows_length))))
theorem plainR_4 (who : I16) (pn : Int) (a : I16) (b : I16) (tr : List Int) (h8 : tr.length * 8 ≤ 140737488355328) : SCall Try.prog 123 [.ifc 226 (.agg (SU.c ⟨who, .v (.int .i64 pn), a, b, .rsl 1 (lrows tr)⟩))] [] fun r L => r = .ret (.agg (FC.c { zF with kind := .v (.int .i64 4), who := who, pn := .v (.int .i64 pn), a := a, b := b, tr := .slc 0 0 tr.length })) ∧ L = [some (.row ⟨1, tr.length, true, 3, lrow tr⟩)] := by
  refine SCall.mk (fn := Try.f123) (by kernel_rfl) rfl (Nat.le_of_ble_eq_true (by kernel_rfl)) ?_
  refine goC ?_
  simp -dsimp +decide (disch := first | omega | simp +decide only [ownpb0]) only [ownpb19, ↓brun_b, envOf, Nat.reduceAdd, Nat.reduceBEq, fun v => miss214 226 v (by decide), fun v => miss210 226 v (by decide), fun v => miss218 226 v (by decide)]
  refine Sem.draw' (by kernel_rfl) (.one 0 (.one 1 (.one 2 (.one 3 (.one 4 (.one 5 (.one 6 (.one 7 (.alt 8 (.one 9 (.alt 10 .done .non)) .non))))))))) [0] (by kernel_rfl) (fun G ff hG hf => ?_)
  simp +decide only [ownpb8, Nat.reduceAdd] at hG ⊢
  simp -dsimp +decide (disch := first | omega | simp +decide only [ownpb0]) only [ownpb20, ↓brun_b, Nat.reduceAdd, Nat.reduceBEq, hG, sapp1_sl elN3, h8]
  refine hf _ (Sem.go (k := 1000) ?_)
  simp +decide only [back_mk, backL_in, backL_row, backL_nil, Nat.zero_add, Nat.reduceAdd]
  simp -dsimp +decide (disch := first | omega | simp +decide only [ownpb0]) only [ownpb17]
  refine SQ.runL (rs := [.cell 2 151]) [2] _ _ rfl (And.intro rfl rfl) (by decide) rfl rfl ?_ ?_
  · simp -dsimp +decide (disch := first | omega | simp +decide only [ownpb0]) only [ownpb11, reduceIte, Nat.reduceAdd, ↓reduceIte]
    exact fun e he => own_tr he
  · simp -dsimp +decide (disch := first | omega | simp +decide only [ownpb0]) only [ownpb18, ↓brun_b, reduceIte, Nat.reduceAdd, Nat.reduceBEq, ↓reduceIte]
def ownpb21 :=
  (aI (aI (aI ownpc9 (aI ownpc0 ownpc3)) (aI (aI ownpc5 ownpc6) (aI ownpc8 @FC.c_length))) (aI (aI @FC.ent (aI @I16.c_length @IC.at_val)) (aI (aI @IC.c_length @al149) (aI @b151k7 @hit210))))
def ownpb22 :=
  (aI (aI (aI ownpc9 (aI ownpc0 ownpc3)) (aI (aI ownpc5 ownpc6) (aI ownpc8 @FC.c_length))) (aI (aI @FC.ent (aI @I16.c_length @IC.at_val)) (aI (aI @IC.c_length @al149) (aI @b151k7 @idrs_len))))
theorem plainR_7 (who : I16) (pn : Int) (toA : Bool) (ids : List I16) (h9 : ids.length * 16 ≤ 140737488355328) : SCall Try.prog 123 [.ifc 235 (.agg (PE.c ⟨who, .v (.int .i64 pn), .v (.bool toA), .rsl 16 (idrs ids)⟩))] [] fun r L => r = .ret (.agg (FC.c { zF with kind := .v (.int .i64 7), who := who, pn := .v (.int .i64 pn), toA := .v (.bool toA), is := .slc 0 0 ids.length })) ∧ L = [some (.row ⟨16, ids.length, true, 23, fun e => (idrs ids).getD e []⟩)] := by
  refine SCall.mk (fn := Try.f123) (by kernel_rfl) rfl (Nat.le_of_ble_eq_true (by kernel_rfl)) ?_
  refine goC ?_
  simp -dsimp +decide (disch := first | omega | simp +decide only [ownpb0]) only [ownpb21, ↓brun_b, envOf, Nat.reduceAdd, Nat.reduceBEq, fun v => miss214 235 v (by decide), fun v => miss210 235 v (by decide), fun v => miss218 235 v (by decide), fun v => miss226 235 v (by decide), fun v => miss230 235 v (by decide), fun v => miss232 235 v (by decide)]
  refine Sem.draw' (by kernel_rfl) (.one 0 (.one 1 (.one 2 (.one 3 (.one 4 (.one 5 (.alt 6 (.one 7 (.alt 8 .done .non)) .non))))))) [0] (by kernel_rfl) (fun G ff hG hf => ?_)
  simp +decide only [ownpb8, Nat.reduceAdd] at hG ⊢
  simp -dsimp +decide (disch := first | omega | simp +decide only [ownpb0]) only [ownpb22, ↓brun_b, Nat.reduceAdd, Nat.reduceBEq, hG, sapp1_sl elN23, h9]
  refine hf _ (Sem.go (k := 1000) ?_)
  simp +decide only [back_mk, backL_in, backL_row, backL_nil, Nat.zero_add, Nat.reduceAdd]
  simp -dsimp +decide (disch := first | omega | simp +decide only [ownpb0]) only [ownpb17]
  refine SQ.runL (rs := [.cell 2 151]) [2] _ _ rfl (And.intro rfl rfl) (by decide) rfl rfl ?_ ?_
  · simp -dsimp +decide (disch := first | omega | simp +decide only [ownpb0]) only [ownpb11, reduceIte, Nat.reduceAdd, ↓reduceIte]
    exact fun e he => own_is he
  · simp -dsimp +decide (disch := first | omega | simp +decide only [ownpb0]) only [ownpb18, ↓brun_b, reduceIte, Nat.reduceAdd, Nat.reduceBEq, ↓reduceIte]
def ownpb23 :=
  (aI (aI (aI ownpc9 (aI ownpc0 ownpc3)) (aI (aI ownpc5 ownpc6) (aI ownpc8 @FC.c_length))) (aI (aI @FC.ent (aI @I16.c_length @IC.at_val)) (aI (aI @IC.c_length @al149) (aI @b151k8 @hit210))))
def ownpb24 :=
  (aI (aI (aI ownpc9 (aI ownpc0 ownpc3)) (aI (aI ownpc5 ownpc6) (aI ownpc8 @FC.c_length))) (aI (aI @FC.ent (aI @I16.c_length @IC.at_val)) (aI (aI @IC.c_length @al149) (aI @b151k8 @lrows_length))))
theorem plainR_8 (a : I16) (b : I16) (op : Int) (who : I16) (pn : Int) (toA : Bool) (tr : List Int) (h8 : tr.length * 8 ≤ 140737488355328) : SCall Try.prog 123 [.ifc 237 (.agg (AK.c ⟨a, b, .v (.int .i64 op), who, .v (.int .i64 pn), .v (.bool toA), .rsl 1 (lrows tr)⟩))] [] fun r L => r = .ret (.agg (FC.c { zF with kind := .v (.int .i64 8), a := a, b := b, op := .v (.int .i64 op), who := who, pn := .v (.int .i64 pn), toA := .v (.bool toA), tr := .slc 0 0 tr.length })) ∧ L = [some (.row ⟨1, tr.length, true, 3, lrow tr⟩)] := by
  refine SCall.mk (fn := Try.f123) (by kernel_rfl) rfl (Nat.le_of_ble_eq_true (by kernel_rfl)) ?_
  refine goC ?_
  simp -dsimp +decide (disch := first | omega | simp +decide only [ownpb0]) only [ownpb23, ↓brun_b, envOf, Nat.reduceAdd, Nat.reduceBEq, fun v => miss214 237 v (by decide), fun v => miss210 237 v (by decide), fun v => miss218 237 v (by decide), fun v => miss226 237 v (by decide), fun v => miss230 237 v (by decide), fun v => miss232 237 v (by decide), fun v => miss235 237 v (by decide)]
  refine Sem.draw' (by kernel_rfl) (.one 0 (.one 1 (.one 2 (.one 3 (.one 4 (.one 5 (.one 6 (.one 7 (.one 8 (.one 9 (.one 10 (.one 11 (.alt 12 (.one 13 (.alt 14 .done .non)) .non))))))))))))) [0] (by kernel_rfl) (fun G ff hG hf => ?_)
  simp +decide only [ownpb8, Nat.reduceAdd] at hG ⊢
  simp -dsimp +decide (disch := first | omega | simp +decide only [ownpb0]) only [ownpb24, ↓brun_b, Nat.reduceAdd, Nat.reduceBEq, hG, sapp1_sl elN3, h8]
  refine hf _ (Sem.go (k := 1000) ?_)
  simp +decide only [back_mk, backL_in, backL_row, backL_nil, Nat.zero_add, Nat.reduceAdd]
  simp -dsimp +decide (disch := first | omega | simp +decide only [ownpb0]) only [ownpb17]
  refine SQ.runL (rs := [.cell 2 151]) [2] _ _ rfl (And.intro rfl rfl) (by decide) rfl rfl ?_ ?_
  · simp -dsimp +decide (disch := first | omega | simp +decide only [ownpb0]) only [ownpb11, reduceIte, Nat.reduceAdd, ↓reduceIte]
    exact fun e he => own_tr he
  · simp -dsimp +decide (disch := first | omega | simp +decide only [ownpb0]) only [ownpb18, ↓brun_b, reduceIte, Nat.reduceAdd, Nat.reduceBEq, ↓reduceIte]
def ownpb25 :=
  (aI (aI (aI ownpc9 (aI ownpc0 ownpc3)) (aI (aI ownpc5 ownpc6) (aI ownpc8 @FC.c_length))) (aI (aI @FC.ent (aI @I16.c_length @IC.at_val)) (aI (aI @IC.c_length @al149) (aI @b151k10 @hit210))))
def ownpb26 :=
  (aI (aI (aI ownpc9 (aI ownpc0 ownpc3)) (aI ownpc5 (aI ownpc6 ownpc8))) (aI (aI @FC.c_length (aI @FC.ent @I16.c_length)) (aI (aI @IC.at_val @IC.c_length) (aI @al149 @b151k10))))
def ownpb27 :=
  (aI (aI (aI ownpc9 (aI ownpc0 ownpc3)) (aI (aI ownpc5 ownpc6) (aI ownpc8 @FC.c_length))) (aI (aI @FC.ent (aI @I16.c_length @IC.at_val)) (aI (aI @IC.c_length @IC.renc) (aI @al149 @b151k10))))
theorem plainR_10 (a : I16) (b : I16) (n : Int) (op : Int) (ttl : Int) (key vwho : I16) (vn : Int) (val : List UInt8) (h11 : val.length ≤ 140737488355328) (tx : List UInt8) (h10 : tx.length ≤ 140737488355328) : SCall Try.prog 123 [.ifc 241 (.agg (PK.c ⟨a, b, .v (.int .i64 n), .v (.int .i64 op), .v (.int .i64 ttl), key, .v (.int .i64 vn), vwho, bsl val, bsl tx⟩))] [] fun r L => r = .ret (.agg (FC.c { zF with kind := .v (.int .i64 10), a := a, b := b, n := .v (.int .i64 n), op := .v (.int .i64 op), ttl := .v (.int .i64 ttl), key := key, vn := .v (.int .i64 vn), vwho := vwho, val := .slc 0 0 val.length, tx := .slc 1 0 tx.length })) ∧ L = [bytR val, bytR tx] := by
  unfold bytR
  refine SCall.mk (fn := Try.f123) (by kernel_rfl) rfl (Nat.le_of_ble_eq_true (by kernel_rfl)) ?_
  refine goC ?_
  simp -dsimp +decide (disch := first | omega | simp +decide only [ownpb0]) only [ownpb25, ↓brun_b, envOf, Nat.reduceAdd, Nat.reduceBEq, fun v => miss214 241 v (by decide), fun v => miss210 241 v (by decide), fun v => miss218 241 v (by decide), fun v => miss226 241 v (by decide), fun v => miss230 241 v (by decide), fun v => miss232 241 v (by decide), fun v => miss235 241 v (by decide), fun v => miss237 241 v (by decide), fun v => miss239 241 v (by decide)]
  refine Sem.draw' (by kernel_rfl) (.one 0 (.one 1 (.one 2 (.one 3 (.one 4 (.one 5 (.one 6 (.one 7 (.one 8 (.one 9 (.one 10 (.one 11 (.one 13 (.one 14 (.alt 12 (.alt 15 (.one 16 (.alt 17 .done .non)) .non) .non))))))))))))))) [0] (by kernel_rfl) (fun G ff hG hf => ?_)
  simp +decide only [ownpb8, Nat.reduceAdd] at hG ⊢
  simp -dsimp +decide (disch := first | omega | simp +decide only [ownpb0]) only [ownpb26, ↓brun_b, Nat.reduceAdd, Nat.reduceBEq, hG]
  have hi := item_own key vwho vn val h11
  unfold bytR at hi
  refine OpSem.callw [] cal.f167 (hi) rfl rfl (by simp -dsimp +decide (disch := first | omega | simp +decide only [ownpb0]) only [ownpb11, ↓brun_b, Nat.reduceAdd, Nat.reduceBEq, rho]) rfl (by simp -dsimp +decide (disch := first | omega | simp +decide only [ownpb0]) only [ownpb11, Nat.reduceAdd, rho]) (dK rfl) ?_
  simp -dsimp +decide (disch := first | omega | simp +decide only [ownpb0]) only [ownpb27, ↓brun_b, Nat.reduceAdd, Nat.reduceBEq, rho, sapp1_sl el5, h10]
  refine hf _ (Sem.go (k := 1000) ?_)
  simp +decide only [back_mk, backL_in, backL_row, backL_nil, Nat.zero_add, Nat.reduceAdd]
  simp -dsimp +decide (disch := first | omega | simp +decide only [ownpb0]) only [ownpb17]
  refine SQ.runL (rs := [.cell 2 151]) [2, 3] _ _ rfl (And.intro rfl rfl) (by decide) rfl rfl ?_ ?_
  · simp -dsimp +decide (disch := first | omega | simp +decide only [ownpb0]) only [ownpb11, reduceIte, Nat.reduceAdd, ↓reduceIte]
    exact fun e he => own_by he
  · simp -dsimp +decide (disch := first | omega | simp +decide only [ownpb0]) only [ownpb18, ↓brun_b, reduceIte, Nat.reduceAdd, Nat.reduceBEq, ↓reduceIte]
def ownpb28 :=
  (aI (aI (aI ownpc9 (aI ownpc0 ownpc3)) (aI (aI ownpc5 ownpc6) (aI ownpc8 @FC.c_length))) (aI (aI @FC.ent (aI @I16.c_length @IC.at_val)) (aI (aI @IC.c_length @al149) (aI @b151k11 @hit210))))
def ownpb29 :=
  (aI (aI (aI ownpc9 (aI ownpc0 ownpc3)) (aI ownpc5 (aI ownpc6 ownpc8))) (aI (aI @FC.c_length (aI @FC.ent @I16.c_length)) (aI (aI @IC.at_val @IC.c_length) (aI @al149 @b151k11))))
def ownpb30 :=
  (aI (aI (aI ownpc9 (aI ownpc0 ownpc3)) (aI (aI ownpc5 ownpc6) (aI ownpc8 @FC.c_length))) (aI (aI @FC.ent (aI @I16.c_length @IC.at_val)) (aI (aI @IC.c_length @IC.renc) (aI @al149 @b151k11))))
theorem plainR_11 (who : I16) (pn : Int) (toA : Bool) (key vwho : I16) (vn : Int) (val : List UInt8) (h11 : val.length ≤ 140737488355328) : SCall Try.prog 123 [.ifc 244 (.agg (CP.c ⟨who, .v (.int .i64 pn), .v (.bool toA), key, .v (.int .i64 vn), vwho, bsl val⟩))] [] fun r L => r = .ret (.agg (FC.c { zF with kind := .v (.int .i64 11), who := who, pn := .v (.int .i64 pn), toA := .v (.bool toA), key := key, vn := .v (.int .i64 vn), vwho := vwho, val := .slc 0 0 val.length })) ∧ L = [bytR val] := by
  unfold bytR
  refine SCall.mk (fn := Try.f123) (by kernel_rfl) rfl (Nat.le_of_ble_eq_true (by kernel_rfl)) ?_
  refine goC ?_
  simp -dsimp +decide (disch := first | omega | simp +decide only [ownpb0]) only [ownpb28, ↓brun_b, envOf, Nat.reduceAdd, Nat.reduceBEq, fun v => miss214 244 v (by decide), fun v => miss210 244 v (by decide), fun v => miss218 244 v (by decide), fun v => miss226 244 v (by decide), fun v => miss230 244 v (by decide), fun v => miss232 244 v (by decide), fun v => miss235 244 v (by decide), fun v => miss237 244 v (by decide), fun v => miss239 244 v (by decide), fun v => miss241 244 v (by decide)]
  refine Sem.draw' (by kernel_rfl) (.one 0 (.one 1 (.one 2 (.one 3 (.one 4 (.one 5 (.alt 6 (.one 7 (.alt 8 .done .non)) .non))))))) [0] (by kernel_rfl) (fun G ff hG hf => ?_)
  simp +decide only [ownpb8, Nat.reduceAdd] at hG ⊢
  simp -dsimp +decide (disch := first | omega | simp +decide only [ownpb0]) only [ownpb29, ↓brun_b, Nat.reduceAdd, Nat.reduceBEq, hG]
  have hi := item_own key vwho vn val h11
  unfold bytR at hi
  refine OpSem.callw [] cal.f167 (hi) rfl rfl (by simp -dsimp +decide (disch := first | omega | simp +decide only [ownpb0]) only [ownpb11, ↓brun_b, Nat.reduceAdd, rho]) rfl (by simp -dsimp +decide (disch := first | omega | simp +decide only [ownpb0]) only [ownpb11, Nat.reduceAdd, rho]) (dK rfl) ?_
  simp -dsimp +decide (disch := first | omega | simp +decide only [ownpb0]) only [ownpb30, ↓brun_b, Nat.reduceAdd, Nat.reduceBEq, rho]
  refine hf _ (Sem.go (k := 1000) ?_)
  simp +decide only [back_mk, backL_in, backL_row, backL_nil, Nat.zero_add, Nat.reduceAdd]
  simp -dsimp +decide (disch := first | omega | simp +decide only [ownpb0]) only [ownpb17]
  refine SQ.runL (rs := [.cell 2 151]) [2] _ _ rfl (And.intro rfl rfl) (by decide) rfl rfl ?_ ?_
  · simp -dsimp +decide (disch := first | omega | simp +decide only [ownpb0]) only [ownpb11, Nat.reduceAdd]
  · simp -dsimp +decide (disch := first | omega | simp +decide only [ownpb0]) only [ownpb18, ↓brun_b, Nat.reduceAdd, Nat.reduceBEq]
theorem plainO_1 (F : Frm)  : SCall Try.prog 123 [.ifc 214 (.agg (H1.c ⟨.v (.int .i64 F.fi), .v (.int .i64 F.fn), .v (.int .i64 F.ti), .v (.int .i64 F.tn), F.a⟩))] [] fun r L => r = .ret (.agg (ofc (bare 1 F) 0 1 2 3).c) ∧ L = ownR (bare 1 F) := by
  have h := plainH_calls F.fi F.fn F.ti F.tn F.a
  unfold Go.SL.Pure at h
  have h := gh_tr (lrow (bare 1 F).tr) _ rfl h
  have h := gh_is (fun e => (idrs (bare 1 F).is).getD e []) _ rfl h
  have h := gh_val (brow (bare 1 F).val) _ rfl h
  have h := gh_tx (brow (bare 1 F).tx) _ rfl h
  refine SCall.tell [0, 1, 2, 3] h ⟨rfl, rfl, rfl, rfl, rfl, rfl, ⟨⟨_, rfl, ?_⟩, trivial⟩, ?_⟩
  · refine FC.entX _ _ rfl rfl rfl rfl rfl ?_ ?_ ?_ ?_ ?_ ?_ ?_ ?_ ?_ ?_ ?_ ?_ ?_ ?_ ?_ <;> rfl
  · exact ⟨EntK_flat fun e => lrow_flat _ _, EntK_flat fun e => idr_flat _ _, EntK_flat fun e => brow_flat _ _, EntK_flat fun e => brow_flat _ _, trivial⟩
theorem plainO_2 (F : Frm) (h10 : F.tx.length ≤ 140737488355328) : SCall Try.prog 123 [.ifc 210 (.agg [.v (.int .i64 F.fi), .v (.int .i64 F.fn), .v (.int .i64 F.ti), .v (.int .i64 F.tn), .v (.int .i64 F.n), bsl F.tx])] [] fun r L => r = .ret (.agg (ofc (bare 2 F) 0 1 2 3).c) ∧ L = ownR (bare 2 F) := by
  have h := plainR_2 F.fi F.fn F.ti F.tn F.n F.tx h10
  have h := gh_tr (lrow (bare 2 F).tr) _ rfl h
  have h := gh_is (fun e => (idrs (bare 2 F).is).getD e []) _ rfl h
  have h := gh_val (brow (bare 2 F).val) _ rfl h
  refine SCall.tell [1, 2, 3, 0] h ⟨rfl, rfl, rfl, rfl, rfl, rfl, ⟨⟨_, rfl, ?_⟩, trivial⟩, ?_⟩
  · refine FC.entX _ _ rfl rfl rfl rfl rfl ?_ ?_ ?_ ?_ ?_ ?_ ?_ ?_ ?_ ?_ ?_ ?_ ?_ ?_ ?_ <;> rfl
  · exact ⟨EntK_flat fun e => lrow_flat _ _, EntK_flat fun e => idr_flat _ _, EntK_flat fun e => brow_flat _ _, EntK_flat fun e => brow_flat _ _, trivial⟩
theorem plainO_3 (F : Frm)  : SCall Try.prog 123 [.ifc 218 (.agg [.v (.int .i64 F.fi), .v (.int .i64 F.fn), .v (.int .i64 F.ti), .v (.int .i64 F.tn), .v (.int .i64 F.n)])] [] fun r L => r = .ret (.agg (ofc (bare 3 F) 0 1 2 3).c) ∧ L = ownR (bare 3 F) := by
  have h := plainK_calls F.fi F.fn F.ti F.tn F.n
  unfold Go.SL.Pure at h
  have h := gh_tr (lrow (bare 3 F).tr) _ rfl h
  have h := gh_is (fun e => (idrs (bare 3 F).is).getD e []) _ rfl h
  have h := gh_val (brow (bare 3 F).val) _ rfl h
  have h := gh_tx (brow (bare 3 F).tx) _ rfl h
  refine SCall.tell [0, 1, 2, 3] h ⟨rfl, rfl, rfl, rfl, rfl, rfl, ⟨⟨_, rfl, ?_⟩, trivial⟩, ?_⟩
  · refine FC.entX _ _ rfl rfl rfl rfl rfl ?_ ?_ ?_ ?_ ?_ ?_ ?_ ?_ ?_ ?_ ?_ ?_ ?_ ?_ ?_ <;> rfl
  · exact ⟨EntK_flat fun e => lrow_flat _ _, EntK_flat fun e => idr_flat _ _, EntK_flat fun e => brow_flat _ _, EntK_flat fun e => brow_flat _ _, trivial⟩
theorem plainO_4 (F : Frm) (h8 : F.tr.length * 8 ≤ 140737488355328) : SCall Try.prog 123 [.ifc 226 (.agg (SU.c ⟨F.who, .v (.int .i64 F.pn), F.a, F.b, .rsl 1 (lrows F.tr)⟩))] [] fun r L => r = .ret (.agg (ofc (bare 4 F) 0 1 2 3).c) ∧ L = ownR (bare 4 F) := by
  have h := plainR_4 F.who F.pn F.a F.b F.tr h8
  have h := gh_is (fun e => (idrs (bare 4 F).is).getD e []) _ rfl h
  have h := gh_val (brow (bare 4 F).val) _ rfl h
  have h := gh_tx (brow (bare 4 F).tx) _ rfl h
  refine SCall.tell [0, 1, 2, 3] h ⟨rfl, rfl, rfl, rfl, rfl, rfl, ⟨⟨_, rfl, ?_⟩, trivial⟩, ?_⟩
  · refine FC.entX _ _ rfl rfl rfl rfl rfl ?_ ?_ ?_ ?_ ?_ ?_ ?_ ?_ ?_ ?_ ?_ ?_ ?_ ?_ ?_ <;> rfl
  · exact ⟨EntK_flat fun e => lrow_flat _ _, EntK_flat fun e => idr_flat _ _, EntK_flat fun e => brow_flat _ _, EntK_flat fun e => brow_flat _ _, trivial⟩
theorem plainO_5 (F : Frm)  : SCall Try.prog 123 [.ifc 230 (.agg (DR.c ⟨F.who, .v (.int .i64 F.pn)⟩))] [] fun r L => r = .ret (.agg (ofc (bare 5 F) 0 1 2 3).c) ∧ L = ownR (bare 5 F) := by
  have h := plain_k5 F.who F.pn
  unfold Go.SL.Pure at h
  have h := gh_tr (lrow (bare 5 F).tr) _ rfl h
  have h := gh_is (fun e => (idrs (bare 5 F).is).getD e []) _ rfl h
  have h := gh_val (brow (bare 5 F).val) _ rfl h
  have h := gh_tx (brow (bare 5 F).tx) _ rfl h
  refine SCall.tell [0, 1, 2, 3] h ⟨rfl, rfl, rfl, rfl, rfl, rfl, ⟨⟨_, rfl, ?_⟩, trivial⟩, ?_⟩
  · refine FC.entX _ _ rfl rfl rfl rfl rfl ?_ ?_ ?_ ?_ ?_ ?_ ?_ ?_ ?_ ?_ ?_ ?_ ?_ ?_ ?_ <;> rfl
  · exact ⟨EntK_flat fun e => lrow_flat _ _, EntK_flat fun e => idr_flat _ _, EntK_flat fun e => brow_flat _ _, EntK_flat fun e => brow_flat _ _, trivial⟩
theorem plainO_6 (F : Frm)  : SCall Try.prog 123 [.ifc 232 (.agg (PT.c ⟨F.who, .v (.int .i64 F.pn), .v (.bool F.toA)⟩))] [] fun r L => r = .ret (.agg (ofc (bare 6 F) 0 1 2 3).c) ∧ L = ownR (bare 6 F) := by
  have h := plain_k6 F.who F.pn F.toA
  unfold Go.SL.Pure at h
  have h := gh_tr (lrow (bare 6 F).tr) _ rfl h
  have h := gh_is (fun e => (idrs (bare 6 F).is).getD e []) _ rfl h
  have h := gh_val (brow (bare 6 F).val) _ rfl h
  have h := gh_tx (brow (bare 6 F).tx) _ rfl h
  refine SCall.tell [0, 1, 2, 3] h ⟨rfl, rfl, rfl, rfl, rfl, rfl, ⟨⟨_, rfl, ?_⟩, trivial⟩, ?_⟩
  · refine FC.entX _ _ rfl rfl rfl rfl rfl ?_ ?_ ?_ ?_ ?_ ?_ ?_ ?_ ?_ ?_ ?_ ?_ ?_ ?_ ?_ <;> rfl
  · exact ⟨EntK_flat fun e => lrow_flat _ _, EntK_flat fun e => idr_flat _ _, EntK_flat fun e => brow_flat _ _, EntK_flat fun e => brow_flat _ _, trivial⟩
theorem plainO_7 (F : Frm) (h9 : F.is.length * 16 ≤ 140737488355328) : SCall Try.prog 123 [.ifc 235 (.agg (PE.c ⟨F.who, .v (.int .i64 F.pn), .v (.bool F.toA), .rsl 16 (idrs F.is)⟩))] [] fun r L => r = .ret (.agg (ofc (bare 7 F) 0 1 2 3).c) ∧ L = ownR (bare 7 F) := by
  have h := plainR_7 F.who F.pn F.toA F.is h9
  have h := gh_tr (lrow (bare 7 F).tr) _ rfl h
  have h := gh_val (brow (bare 7 F).val) _ rfl h
  have h := gh_tx (brow (bare 7 F).tx) _ rfl h
  refine SCall.tell [1, 0, 2, 3] h ⟨rfl, rfl, rfl, rfl, rfl, rfl, ⟨⟨_, rfl, ?_⟩, trivial⟩, ?_⟩
  · refine FC.entX _ _ rfl rfl rfl rfl rfl ?_ ?_ ?_ ?_ ?_ ?_ ?_ ?_ ?_ ?_ ?_ ?_ ?_ ?_ ?_ <;> rfl
  · exact ⟨EntK_flat fun e => lrow_flat _ _, EntK_flat fun e => idr_flat _ _, EntK_flat fun e => brow_flat _ _, EntK_flat fun e => brow_flat _ _, trivial⟩
theorem plainO_8 (F : Frm) (h8 : F.tr.length * 8 ≤ 140737488355328) : SCall Try.prog 123 [.ifc 237 (.agg (AK.c ⟨F.a, F.b, .v (.int .i64 F.op), F.who, .v (.int .i64 F.pn), .v (.bool F.toA), .rsl 1 (lrows F.tr)⟩))] [] fun r L => r = .ret (.agg (ofc (bare 8 F) 0 1 2 3).c) ∧ L = ownR (bare 8 F) := by
  have h := plainR_8 F.a F.b F.op F.who F.pn F.toA F.tr h8
  have h := gh_is (fun e => (idrs (bare 8 F).is).getD e []) _ rfl h
  have h := gh_val (brow (bare 8 F).val) _ rfl h
  have h := gh_tx (brow (bare 8 F).tx) _ rfl h
  refine SCall.tell [0, 1, 2, 3] h ⟨rfl, rfl, rfl, rfl, rfl, rfl, ⟨⟨_, rfl, ?_⟩, trivial⟩, ?_⟩
  · refine FC.entX _ _ rfl rfl rfl rfl rfl ?_ ?_ ?_ ?_ ?_ ?_ ?_ ?_ ?_ ?_ ?_ ?_ ?_ ?_ ?_ <;> rfl
  · exact ⟨EntK_flat fun e => lrow_flat _ _, EntK_flat fun e => idr_flat _ _, EntK_flat fun e => brow_flat _ _, EntK_flat fun e => brow_flat _ _, trivial⟩
theorem plainO_9 (F : Frm)  : SCall Try.prog 123 [.ifc 239 (.agg (AD.c ⟨F.a, .v (.int .i64 F.n)⟩))] [] fun r L => r = .ret (.agg (ofc (bare 9 F) 0 1 2 3).c) ∧ L = ownR (bare 9 F) := by
  have h := plain_k9 F.a F.n
  unfold Go.SL.Pure at h
  have h := gh_tr (lrow (bare 9 F).tr) _ rfl h
  have h := gh_is (fun e => (idrs (bare 9 F).is).getD e []) _ rfl h
  have h := gh_val (brow (bare 9 F).val) _ rfl h
  have h := gh_tx (brow (bare 9 F).tx) _ rfl h
  refine SCall.tell [0, 1, 2, 3] h ⟨rfl, rfl, rfl, rfl, rfl, rfl, ⟨⟨_, rfl, ?_⟩, trivial⟩, ?_⟩
  · refine FC.entX _ _ rfl rfl rfl rfl rfl ?_ ?_ ?_ ?_ ?_ ?_ ?_ ?_ ?_ ?_ ?_ ?_ ?_ ?_ ?_ <;> rfl
  · exact ⟨EntK_flat fun e => lrow_flat _ _, EntK_flat fun e => idr_flat _ _, EntK_flat fun e => brow_flat _ _, EntK_flat fun e => brow_flat _ _, trivial⟩
theorem plainO_10 (F : Frm) (h11 : F.val.length ≤ 140737488355328) (h10 : F.tx.length ≤ 140737488355328) : SCall Try.prog 123 [.ifc 241 (.agg (PK.c ⟨F.a, F.b, .v (.int .i64 F.n), .v (.int .i64 F.op), .v (.int .i64 F.ttl), F.key, .v (.int .i64 F.vn), F.vwho, bsl F.val, bsl F.tx⟩))] [] fun r L => r = .ret (.agg (ofc (bare 10 F) 0 1 2 3).c) ∧ L = ownR (bare 10 F) := by
  have h := plainR_10 F.a F.b F.n F.op F.ttl F.key F.vwho F.vn F.val h11 F.tx h10
  have h := gh_tr (lrow (bare 10 F).tr) _ rfl h
  have h := gh_is (fun e => (idrs (bare 10 F).is).getD e []) _ rfl h
  refine SCall.tell [2, 3, 0, 1] h ⟨rfl, rfl, rfl, rfl, rfl, rfl, ⟨⟨_, rfl, ?_⟩, trivial⟩, ?_⟩
  · refine FC.entX _ _ rfl rfl rfl rfl rfl ?_ ?_ ?_ ?_ ?_ ?_ ?_ ?_ ?_ ?_ ?_ ?_ ?_ ?_ ?_ <;> rfl
  · exact ⟨EntK_flat fun e => lrow_flat _ _, EntK_flat fun e => idr_flat _ _, EntK_flat fun e => brow_flat _ _, EntK_flat fun e => brow_flat _ _, trivial⟩
theorem plainO_11 (F : Frm) (h11 : F.val.length ≤ 140737488355328) : SCall Try.prog 123 [.ifc 244 (.agg (CP.c ⟨F.who, .v (.int .i64 F.pn), .v (.bool F.toA), F.key, .v (.int .i64 F.vn), F.vwho, bsl F.val⟩))] [] fun r L => r = .ret (.agg (ofc (bare 11 F) 0 1 2 3).c) ∧ L = ownR (bare 11 F) := by
  have h := plainR_11 F.who F.pn F.toA F.key F.vwho F.vn F.val h11
  have h := gh_tr (lrow (bare 11 F).tr) _ rfl h
  have h := gh_is (fun e => (idrs (bare 11 F).is).getD e []) _ rfl h
  have h := gh_tx (brow (bare 11 F).tx) _ rfl h
  refine SCall.tell [1, 2, 0, 3] h ⟨rfl, rfl, rfl, rfl, rfl, rfl, ⟨⟨_, rfl, ?_⟩, trivial⟩, ?_⟩
  · refine FC.entX _ _ rfl rfl rfl rfl rfl ?_ ?_ ?_ ?_ ?_ ?_ ?_ ?_ ?_ ?_ ?_ ?_ ?_ ?_ ?_ <;> rfl
  · exact ⟨EntK_flat fun e => lrow_flat _ _, EntK_flat fun e => idr_flat _ _, EntK_flat fun e => brow_flat _ _, EntK_flat fun e => brow_flat _ _, trivial⟩
theorem plainO_12 (F : Frm)  : SCall Try.prog 123 [.ifc 246 (.agg (GT.c ⟨F.who, .v (.int .i64 F.pn), .v (.bool F.toA), F.key, .v (.int .i64 F.vn), F.vwho⟩))] [] fun r L => r = .ret (.agg (ofc (bare 12 F) 0 1 2 3).c) ∧ L = ownR (bare 12 F) := by
  have h := plain_k12 F.who F.pn F.toA F.key F.vwho F.vn
  unfold Go.SL.Pure at h
  have h := gh_tr (lrow (bare 12 F).tr) _ rfl h
  have h := gh_is (fun e => (idrs (bare 12 F).is).getD e []) _ rfl h
  have h := gh_val (brow (bare 12 F).val) _ rfl h
  have h := gh_tx (brow (bare 12 F).tx) _ rfl h
  refine SCall.tell [0, 1, 2, 3] h ⟨rfl, rfl, rfl, rfl, rfl, rfl, ⟨⟨_, rfl, ?_⟩, trivial⟩, ?_⟩
  · refine FC.entX _ _ rfl rfl rfl rfl rfl ?_ ?_ ?_ ?_ ?_ ?_ ?_ ?_ ?_ ?_ ?_ ?_ ?_ ?_ ?_ <;> rfl
  · exact ⟨EntK_flat fun e => lrow_flat _ _, EntK_flat fun e => idr_flat _ _, EntK_flat fun e => brow_flat _ _, EntK_flat fun e => brow_flat _ _, trivial⟩
theorem plain_own (F : Frm) (hw : F.wf) (hg : good F) : SCall Try.prog 123 [bodyV F] [] fun r L => r = .ret (.agg (ofc F 0 1 2 3).c) ∧ L = ownR F := by
  have h8 : F.tr.length * 8 ≤ 140737488355328 := wfC hw
  have h9 : F.is.length * 16 ≤ 140737488355328 := wfD hw
  have h10 : F.tx.length ≤ 140737488355328 := wfB hw
  have h11 : F.val.length ≤ 140737488355328 := wfA hw
  obtain ⟨g1, g2, _, hs⟩ := hg
  have hk := k_cases ⟨g1, g2⟩
  have : F.k = 1 ∨ F.k = 2 ∨ F.k = 3 ∨ F.k = 4 ∨ F.k = 5 ∨ F.k = 6 ∨ F.k = 7 ∨ F.k = 8 ∨ F.k = 9 ∨ F.k = 10 ∨ F.k = 11 ∨ F.k = 12 := by omega
  rcases this with e | e | e | e | e | e | e | e | e | e | e | e <;> rw [e] at hs hk
  · have h := plainO_1 F
    rw [← hs] at h
    unfold bodyV
    rw [e]
    exact h
  · have h := plainO_2 F h10
    rw [← hs] at h
    unfold bodyV
    rw [e]
    exact h
  · have h := plainO_3 F
    rw [← hs] at h
    unfold bodyV
    rw [e]
    exact h
  · have h := plainO_4 F h8
    rw [← hs] at h
    unfold bodyV
    rw [e]
    exact h
  · have h := plainO_5 F
    rw [← hs] at h
    unfold bodyV
    rw [e]
    exact h
  · have h := plainO_6 F
    rw [← hs] at h
    unfold bodyV
    rw [e]
    exact h
  · have h := plainO_7 F h9
    rw [← hs] at h
    unfold bodyV
    rw [e]
    exact h
  · have h := plainO_8 F h8
    rw [← hs] at h
    unfold bodyV
    rw [e]
    exact h
  · have h := plainO_9 F
    rw [← hs] at h
    unfold bodyV
    rw [e]
    exact h
  · have h := plainO_10 F h11 h10
    rw [← hs] at h
    unfold bodyV
    rw [e]
    exact h
  · have h := plainO_11 F h11
    rw [← hs] at h
    unfold bodyV
    rw [e]
    exact h
  · have h := plainO_12 F
    rw [← hs] at h
    unfold bodyV
    rw [e]
    exact h
end Go.Proofs
namespace Go.Proofs
open Go Go.SL
set_option maxRecDepth 100000
def rowK (el f : Nat → List SV) (k e : Nat) : List SV := if e < k then f e else el e
theorem rowK_zero (el f : Nat → List SV) : rowK el f 0 = el := by
  funext e
  rw [rowK, if_neg (by omega)]
theorem rowK_at (el f : Nat → List SV) (k : Nat) : rowK el f k k = el k := by rw [rowK, if_neg (by omega)]
theorem rowK_step {n : Nat} {el f : Nat → List SV} {k j i : Nat} {x : SV} (hk : k < n) (hi : i < n) (hs : splice (el k) j [x] = f k) : updE n (rowK el f k) k j [x] i = rowK el f (k + 1) i := by
  rw [updE_at _ _ _ _ _ _ hk hi]
  split
  · rename_i h
    subst h
    rw [rowK_at, hs, rowK, if_pos (by omega)]
  · unfold rowK
    by_cases h : i < k
    · rw [if_pos h, if_pos (by omega)]
    · rw [if_neg h, if_neg (by omega)]
theorem rowK_flat {el f : Nat → List SV} (h1 : ∀ e, SV.flatL (el e) = true) (h2 : ∀ e, SV.flatL (f e) = true) (k e : Nat) : SV.flatL (rowK el f k e) = true := by
  unfold rowK
  split
  · exact h2 e
  · exact h1 e
def trF (l : List Int) (e : Nat) : List SV := [.v (.int .i64 (IntKind.i64.wrap (l.getD e 0 + 1)))]
def byF (l : List UInt8) (e : Nat) : List SV := [.v (.int .u8 (IntKind.u8.wrap (((l.getD e 0).toNat : Int) + 1)))]
def idE (l : List I16) (e : Nat) : List SV := (idrs l).getD e []
def idF (l : List I16) (e : Nat) : List SV := splice (idE l e) 0 [.v (.int .u8 (IntKind.u8.wrap ((l.getD e I16.zero).at 0 + 1)))]
theorem idE_flat (l : List I16) (e : Nat) : SV.flatL (idE l e) = true := by
  unfold idE
  by_cases h : e < l.length
  · rw [idrs_at l e h I16.zero]; exact I16.flat _
  · rw [List.getD_eq_getElem?_getD, List.getElem?_eq_none (by rw [idrs_len]; omega)]; rfl
theorem flatL_takeO : ∀ (l : List SV) (n : Nat), SV.flatL l = true → SV.flatL (l.take n) = true
  | [], n, _ => by simp [SV.flatL]
  | x :: l, 0, _ => rfl
  | x :: l, n + 1, h => by
    simp only [SV.flatL, List.take_succ_cons, Bool.and_eq_true] at h ⊢
    exact ⟨h.1, flatL_takeO l n h.2⟩
theorem flatL_dropO : ∀ (l : List SV) (n : Nat), SV.flatL l = true → SV.flatL (l.drop n) = true
  | [], n, _ => by simp [SV.flatL]
  | x :: l, 0, h => h
  | x :: l, n + 1, h => by
    simp only [SV.flatL, List.drop_succ_cons, Bool.and_eq_true] at h ⊢
    exact flatL_dropO l n h.2
theorem idF_flat (l : List I16) (e : Nat) : SV.flatL (idF l e) = true :=
  flatL_append _ _ (flatL_append _ _ (flatL_takeO _ _ (idE_flat l e)) rfl) (flatL_dropO _ _ (idE_flat l e))
theorem idE_at (l : List I16) (k : Nat) (h : k < l.length) : idE l k = (l.getD k I16.zero).c := idrs_at l k h I16.zero
theorem lrow_cell0 (l : List Int) (k : Nat) : cellAt (lrow l k) 0 = .v (.int .i64 (l.getD k 0)) := rfl
theorem brow_cell0 (l : List UInt8) (k : Nat) : cellAt (brow l k) 0 = .v (.int .u8 ((l.getD k 0).toNat : Int)) := rfl
def ownpb31 :=
  (aI (aI (aI ownpc0 ownpc1) (aI @FC.c_length @I16.c_length)) (aI (aI @IC.c_length @idE_flat) (aI @idrs_len @lrows_length)))
def ownpb32 :=
  (aI (aI (aI ownpc2 ownpc3) (aI ownpc5 ownpc6)) (aI (aI @FC.c_length @I16.c_length) (aI @IC.at_val @IC.c_length)))
def ownpb33 :=
  (aI (aI (aI ownpc3 (aI ownpc5 ownpc6)) (aI @FC.c_length (aI @FC.ent @I16.c_length))) (aI (aI @bwk_a (aI @eq_self.{1} @forall_const.{1})) (aI @implies_true.{0} (aI @implies_true.{1} @rowK_zero))))
def ownpb34 :=
  (aI (aI (aI ownpc2 (aI ownpc3 ownpc5)) (aI ownpc6 (aI @FC.c_length @I16.c_length))) (aI (aI @IC.at_val (aI @IC.c_length @brow_cell0)) (aI @lrow_cell0 (aI @rowK_at @sstore2_nint))))
def ownpb35 :=
  (aI (aI (aI ownpc3 ownpc5) (aI ownpc6 (aI @FC.c_length @FC.ent))) (aI (aI @I16.c_length (aI @bwk_a @eq_self.{1})) (aI @forall_const.{1} (aI @implies_true.{0} @implies_true.{1}))))
def ownpb36 :=
  (aI (aI (aI ownpc2 ownpc3) (aI ownpc5 (aI ownpc6 @FC.c_length))) (aI (aI @I16.c_length (aI @I16.cell @IC.at_val)) (aI @IC.c_length (aI @rowK_at @sstore2_nint))))
def ownpb37 :=
  (aI (aI (aI ownpc3 ownpc5) (aI ownpc6 (aI @FC.c_length @I16.c_length))) (aI (aI @bwk_a @eq_self.{1}) (aI @forall_const.{1} (aI @implies_true.{0} @implies_true.{1}))))
set_option maxHeartbeats 4000000 in
theorem spoil_calls (F : Frm) (h8 : F.tr.length * 8 ≤ 140737488355328) (h9 : F.is.length * 16 ≤ 140737488355328) (h10 : F.tx.length ≤ 140737488355328) (h11 : F.val.length ≤ 140737488355328) : SCall Try.prog 124 [.agg (ofc F 0 1 2 3).c] (ownR F) fun r L => r = .ret (.tup []) ∧ L = [none, none, none, none] := by
  unfold ownR trR isR bytR ofc
  rw [show (fun e => (idrs F.is).getD e []) = idE F.is from rfl]
  refine SCall.mk (fn := Try.f124) (by kernel_rfl) rfl (Nat.le_of_ble_eq_true (by kernel_rfl)) ?_
  refine goC ?_
  simp -dsimp +decide (disch := first | omega | simp +decide only [ownpb31]) only [ownpb32, ↓brun_b, envOf, Nat.reduceAdd]
  refine Sem.loop (ι := {k : Nat // k ≤ F.tr.length}) (fun k => ⟨66, 4, [(1, .ptr 4 0 0), (8, .v (.int .i64 (F.tr.length : Int))), (9, .v (.int .i64 (k.1 : Int)))], [some (.row ⟨1, F.tr.length, true, 3, rowK (lrow F.tr) (trF F.tr) k.1⟩), some (.row ⟨16, F.is.length, true, 23, (idE F.is)⟩), some (.row ⟨1, F.val.length, true, 5, (brow F.val)⟩), some (.row ⟨1, F.tx.length, true, 5, (brow F.tx)⟩), some (.row ⟨95, 1, true, 151, fun _ => FC.c ⟨.v (.int .i64 F.kind), F.who, .v (.int .i64 F.pn), .v (.bool F.toA), F.a, F.b, .v (.int .i64 F.n), .v (.int .i64 F.fi), .v (.int .i64 F.fn), .v (.int .i64 F.ti), .v (.int .i64 F.tn), .slc 0 0 F.tr.length, .slc 1 0 F.is.length, F.key, .v (.int .i64 F.vn), F.vwho, .slc 2 0 F.val.length, .v (.int .i64 F.op), .v (.int .i64 F.ttl), .slc 3 0 F.tx.length⟩⟩)]⟩) (fun k => F.tr.length - k.1) ⟨0, by omega⟩ [0, 1, 2, 3, 4] ?_ ?_
  · (refine Wk.ofC ?_; simp -dsimp +decide (disch := first | omega | simp +decide only [ownpb31]) only [ownpb33, ↓brun_b, Nat.reduceAdd, Nat.reduceBEq])
  · rintro ⟨k, hk⟩
    refine goC ?_
    simp -dsimp +decide (disch := first | omega | simp +decide only [ownpb31]) only [ownpb32, ↓brun_b, Nat.reduceAdd, Nat.reduceBEq]
    refine SCond.split (fun h => ?_) (fun h => ?_)
    · simp only [decide_eq_true_eq] at h
      have hk' : k < F.tr.length := by omega
      have hw : IntKind.i64.wrap ((k : Int) + 1) = ((k + 1 : Nat) : Int) := by rw [wrap_i64 _ (by omega)]; rfl
      simp -dsimp +decide (disch := first | omega | simp +decide only [ownpb31]) only [ownpb34, ↓brun_b, Nat.reduceAdd, Nat.reduceBEq, hw]
      repeat (refine And.intro (by omega) ?_)
      refine ⟨⟨k + 1, by omega⟩, [0, 1, 2, 3, 4], ?_, by show F.tr.length - (k + 1) < F.tr.length - k; omega⟩
      (refine Wk.ofC ?_; simp -dsimp +decide (disch := first | omega | simp +decide only [ownpb31]) only [ownpb35, ↓brun_b, Nat.reduceAdd, Nat.reduceBEq])
      repeat (refine And.intro (by first | exact fun _ _ => EntL.self (brow_flat _ _) | exact fun _ _ => EntL.self (idE_flat _ _)) ?_)
      intro e he
      rw [rowK_step hk' he rfl]
      exact EntL.self (rowK_flat (lrow_flat _) (fun _ => rfl) _ _)
    · simp -dsimp +decide (disch := first | omega | simp +decide only [ownpb31]) only [ownpb32, ↓brun_b, reduceIte, Nat.reduceAdd, Nat.reduceBEq]
      refine Sem.loop (ι := {k : Nat // k ≤ F.is.length}) (fun k => ⟨66, 4, [(1, .ptr 4 0 0), (22, .v (.int .i64 (F.is.length : Int))), (23, .v (.int .i64 (k.1 : Int)))], [none, some (.row ⟨16, F.is.length, true, 23, rowK (idE F.is) (idF F.is) k.1⟩), some (.row ⟨1, F.val.length, true, 5, (brow F.val)⟩), some (.row ⟨1, F.tx.length, true, 5, (brow F.tx)⟩), some (.row ⟨95, 1, true, 151, fun _ => FC.c ⟨.v (.int .i64 F.kind), F.who, .v (.int .i64 F.pn), .v (.bool F.toA), F.a, F.b, .v (.int .i64 F.n), .v (.int .i64 F.fi), .v (.int .i64 F.fn), .v (.int .i64 F.ti), .v (.int .i64 F.tn), .slc 0 0 F.tr.length, .slc 1 0 F.is.length, F.key, .v (.int .i64 F.vn), F.vwho, .slc 2 0 F.val.length, .v (.int .i64 F.op), .v (.int .i64 F.ttl), .slc 3 0 F.tx.length⟩⟩)]⟩) (fun k => F.is.length - k.1) ⟨0, by omega⟩ [0, 1, 2, 3, 4] ?_ ?_
      · (refine Wk.ofC ?_; simp -dsimp +decide (disch := first | omega | simp +decide only [ownpb31]) only [ownpb33, ↓brun_b, Nat.reduceAdd, Nat.reduceBEq])
      · rintro ⟨k, hk⟩
        refine goC ?_
        simp -dsimp +decide (disch := first | omega | simp +decide only [ownpb31]) only [ownpb32, ↓brun_b, Nat.reduceAdd, Nat.reduceBEq]
        refine SCond.split (fun h => ?_) (fun h => ?_)
        · simp only [decide_eq_true_eq] at h
          have hk' : k < F.is.length := by omega
          have hw : IntKind.i64.wrap ((k : Int) + 1) = ((k + 1 : Nat) : Int) := by rw [wrap_i64 _ (by omega)]; rfl
          simp -dsimp +decide (disch := first | omega | simp +decide only [ownpb31]) only [ownpb32, ↓brun_b, Nat.reduceAdd, Nat.reduceBEq]
          refine Sem.draw' (by kernel_rfl) (.one 0 (.one 1 (.one 2 (.alt 3 (.one 4 (.alt 5 (.one 6 (.alt 7 (.one 8 (.alt 9 .done .non)) .non)) (.alt 7 (.alt 5 (.one 6 (.one 8 (.alt 9 .done .non))) .non) .non))) (.alt 7 (.alt 3 (.one 4 (.alt 5 (.one 6 (.one 8 (.alt 9 .done .non))) .non)) .non) .non))))) [1] (by kernel_rfl) (fun G ff hG hf => ?_)
          simp +decide only [ownpb8, Nat.reduceAdd] at hG ⊢
          simp -dsimp +decide (disch := first | omega | simp +decide only [ownpb31]) only [ownpb36, ↓brun_b, Nat.reduceAdd, Nat.reduceBEq, hG, idE_at _ _ hk']
          (repeat' refine And.intro ?_ ?_)
          all_goals first | omega | skip
          all_goals
            refine hf _ (Sem.go (k := 1000) ?_)
            simp +decide only [back_mk, backL_in, backL_row, backL_none, backL_nil, Nat.zero_add, Nat.reduceAdd]
            simp -dsimp +decide (disch := first | omega | simp +decide only [ownpb31]) only [ownpb32, ↓brun_b, Nat.reduceAdd, Nat.reduceBEq, hw]
            refine ⟨⟨k + 1, by omega⟩, [0, 1, 2, 3, 4], ?_, by show F.is.length - (k + 1) < F.is.length - k; omega⟩
            (refine Wk.ofC ?_; simp -dsimp +decide (disch := first | omega | simp +decide only [ownpb31]) only [ownpb35, ↓brun_b, Nat.reduceAdd, Nat.reduceBEq])
            intro e he
            rw [rowK_step hk' he rfl]
            exact EntL.self (rowK_flat (idE_flat _) (idF_flat _) _ _)
        · simp -dsimp +decide (disch := first | omega | simp +decide only [ownpb31]) only [ownpb32, ↓brun_b, reduceIte, Nat.reduceAdd, Nat.reduceBEq]
          refine Sem.loop (ι := {k : Nat // k ≤ F.tx.length}) (fun k => ⟨66, 4, [(1, .ptr 4 0 0), (38, .v (.int .i64 (F.tx.length : Int))), (39, .v (.int .i64 (k.1 : Int)))], [none, none, some (.row ⟨1, F.val.length, true, 5, (brow F.val)⟩), some (.row ⟨1, F.tx.length, true, 5, rowK (brow F.tx) (byF F.tx) k.1⟩), some (.row ⟨95, 1, true, 151, fun _ => FC.c ⟨.v (.int .i64 F.kind), F.who, .v (.int .i64 F.pn), .v (.bool F.toA), F.a, F.b, .v (.int .i64 F.n), .v (.int .i64 F.fi), .v (.int .i64 F.fn), .v (.int .i64 F.ti), .v (.int .i64 F.tn), .slc 0 0 F.tr.length, .slc 1 0 F.is.length, F.key, .v (.int .i64 F.vn), F.vwho, .slc 2 0 F.val.length, .v (.int .i64 F.op), .v (.int .i64 F.ttl), .slc 3 0 F.tx.length⟩⟩)]⟩) (fun k => F.tx.length - k.1) ⟨0, by omega⟩ [0, 1, 2, 3, 4] ?_ ?_
          · (refine Wk.ofC ?_; simp -dsimp +decide (disch := first | omega | simp +decide only [ownpb31]) only [ownpb33, ↓brun_b, Nat.reduceAdd, Nat.reduceBEq])
          · rintro ⟨k, hk⟩
            refine goC ?_
            simp -dsimp +decide (disch := first | omega | simp +decide only [ownpb31]) only [ownpb32, ↓brun_b, Nat.reduceAdd, Nat.reduceBEq]
            refine SCond.split (fun h => ?_) (fun h => ?_)
            · simp only [decide_eq_true_eq] at h
              have hk' : k < F.tx.length := by omega
              have hw : IntKind.i64.wrap ((k : Int) + 1) = ((k + 1 : Nat) : Int) := by rw [wrap_i64 _ (by omega)]; rfl
              simp -dsimp +decide (disch := first | omega | simp +decide only [ownpb31]) only [ownpb34, ↓brun_b, Nat.reduceAdd, Nat.reduceBEq, hw]
              repeat (refine And.intro (by omega) ?_)
              refine ⟨⟨k + 1, by omega⟩, [0, 1, 2, 3, 4], ?_, by show F.tx.length - (k + 1) < F.tx.length - k; omega⟩
              (refine Wk.ofC ?_; simp -dsimp +decide (disch := first | omega | simp +decide only [ownpb31]) only [ownpb35, ↓brun_b, Nat.reduceAdd, Nat.reduceBEq])
              repeat (refine And.intro (by first | exact fun _ _ => EntL.self (brow_flat _ _) | exact fun _ _ => EntL.self (idE_flat _ _)) ?_)
              intro e he
              rw [rowK_step hk' he rfl]
              exact EntL.self (rowK_flat (brow_flat _) (fun _ => rfl) _ _)
            · simp -dsimp +decide (disch := first | omega | simp +decide only [ownpb31]) only [ownpb32, ↓brun_b, reduceIte, Nat.reduceAdd, Nat.reduceBEq]
              refine Sem.loop (ι := {k : Nat // k ≤ F.val.length}) (fun k => ⟨66, 4, [(1, .ptr 4 0 0), (53, .v (.int .i64 (F.val.length : Int))), (54, .v (.int .i64 (k.1 : Int)))], [none, none, some (.row ⟨1, F.val.length, true, 5, rowK (brow F.val) (byF F.val) k.1⟩), none, some (.row ⟨95, 1, true, 151, fun _ => FC.c ⟨.v (.int .i64 F.kind), F.who, .v (.int .i64 F.pn), .v (.bool F.toA), F.a, F.b, .v (.int .i64 F.n), .v (.int .i64 F.fi), .v (.int .i64 F.fn), .v (.int .i64 F.ti), .v (.int .i64 F.tn), .slc 0 0 F.tr.length, .slc 1 0 F.is.length, F.key, .v (.int .i64 F.vn), F.vwho, .slc 2 0 F.val.length, .v (.int .i64 F.op), .v (.int .i64 F.ttl), .slc 3 0 F.tx.length⟩⟩)]⟩) (fun k => F.val.length - k.1) ⟨0, by omega⟩ [0, 1, 2, 3, 4] ?_ ?_
              · (refine Wk.ofC ?_; simp -dsimp +decide (disch := first | omega | simp +decide only [ownpb31]) only [ownpb33, ↓brun_b, Nat.reduceAdd, Nat.reduceBEq])
              · rintro ⟨k, hk⟩
                refine goC ?_
                simp -dsimp +decide (disch := first | omega | simp +decide only [ownpb31]) only [ownpb32, ↓brun_b, Nat.reduceAdd, Nat.reduceBEq]
                refine SCond.split (fun h => ?_) (fun h => ?_)
                · simp only [decide_eq_true_eq] at h
                  have hk' : k < F.val.length := by omega
                  have hw : IntKind.i64.wrap ((k : Int) + 1) = ((k + 1 : Nat) : Int) := by rw [wrap_i64 _ (by omega)]; rfl
                  simp -dsimp +decide (disch := first | omega | simp +decide only [ownpb31]) only [ownpb34, ↓brun_b, Nat.reduceAdd, Nat.reduceBEq, hw]
                  repeat (refine And.intro (by omega) ?_)
                  refine ⟨⟨k + 1, by omega⟩, [0, 1, 2, 3, 4], ?_, by show F.val.length - (k + 1) < F.val.length - k; omega⟩
                  (refine Wk.ofC ?_; simp -dsimp +decide (disch := first | omega | simp +decide only [ownpb31]) only [ownpb35, ↓brun_b, Nat.reduceAdd, Nat.reduceBEq])
                  repeat (refine And.intro (by first | exact fun _ _ => EntL.self (brow_flat _ _) | exact fun _ _ => EntL.self (idE_flat _ _)) ?_)
                  intro e he
                  rw [rowK_step hk' he rfl]
                  exact EntL.self (rowK_flat (brow_flat _) (fun _ => rfl) _ _)
                · simp -dsimp +decide (disch := first | omega | simp +decide only [ownpb31]) only [ownpb32, reduceIte]
                  refine SQ.fin ?_
                  refine SQ.runL (rs := []) [0, 1, 2, 3] _ _ rfl (And.intro rfl rfl) (by decide) rfl rfl ?_ ?_
                  · simp -dsimp +decide (disch := first | omega | simp +decide only [ownpb31]) only [ownpb37, Nat.reduceAdd]
                  · simp -dsimp +decide (disch := first | omega | simp +decide only [ownpb31]) only [ownpb37, ↓brun_b, Nat.reduceAdd]
                    exact ⟨[], rfl, rfl⟩
end Go.Proofs
