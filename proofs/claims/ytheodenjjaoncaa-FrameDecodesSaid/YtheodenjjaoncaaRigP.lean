/- Contracts of functions that the laws reach, on abstract values, and what they need: no conditions but those that each theorem states. -/
import Derived.Test.YtheodenjjaoncaaLayP
import Derived.Test.YtheodenjjaoncaaBodP
set_option linter.unusedVariables false
set_option linter.unusedSimpArgs false
set_option linter.defProp false
namespace Go.SL
open Go
section
variable {P : Program} {Q : SX → St → Prop} {K : List It} {s : St}
theorem SemOps.callwc {all rest : List Oper} {op : Oper} {fo : Operand} {argos : Array Operand} {ats : Array TypeId} {f : FuncId} {x : SV} {fi ca ac : List SV} {Lc L1 : List (Option SK)} (l : List Nat)
    (hcal : Cal P f) (hc : SCall P f ac Lc fun r L' => r = .ret x ∧ L' = L1) (hop : op.op = .call ⟨.value fo, argos, ats⟩) (hg : op.guard = none) (hfv : seval s.env fo = .fn (.func f) fi ca)
    (hargs : EntL nofz (rho l s.L.length) ac (fi ++ argos.toList.map (seval s.env) ++ ca)) (hnd : nodupN l = true) (hL : wkL nofz (rho l s.L.length) s.L l Lc)
    (hd : dstOk s op.dst) (next : SemOps P Q all rest K ((s.after l Lc L1).put op.dst (x.ren (rho l s.L.length)))) : SemOps P Q all (op :: rest) K s := by
  refine SemOps.callE hop hg hfv hcal l hc hargs (nodupN_spec hnd) hL hd (fun r L' h => ?_) (fun x L' h => nomatch h.1)
  obtain ⟨h1, rfl⟩ := h
  cases h1
  exact next
end
end Go.SL
namespace Go.Proofs
open Go Go.SL
set_option maxRecDepth 100000
def allNN (ns : List Int) : Bool := ns.all fun v => decide (0 ≤ v)
def allTr (ns : List Int) : Bool := ns.all fun v => decide (0 ≤ v) && decide (v < 6)
def trB (l : List Int) : Bool := decide (l.length ≤ 64) && allTr l
theorem all_take (p : Int → Bool) (ns : List Int) (k : Nat) (h : k < ns.length) : (ns.take (k + 1)).all p = ((ns.take k).all p && p (ns.getD k 0)) := by
  rw [List.take_add_one, List.all_append, List.getD_eq_getElem?_getD, List.getElem?_eq_getElem h]
  simp
def okR (o : Bool) : Option SK := some (.row ⟨1, 1, true, 4, fun _ => [.v (.bool o)]⟩)
def rigpc0 :=
  (And.intro (And.intro (And.intro @Int.cast_ofNat_Int (And.intro @SKren_row @after_mk)) (And.intro (And.intro @bs69_1 @cellAt_succ) (And.intro @cellAt_zero @mergeL_done))) (And.intro (And.intro @mergeL_own (And.intro @renL_cons @renL_flat)) (And.intro (And.intro @renL_nil @ren_tup) (And.intro @splice_0 @splice_c))))
def rigpc1 :=
  (And.intro (And.intro (And.intro @beq_self_eq_true.{0} @brun_a) (And.intro @cond_false.{1} (And.intro @cond_true.{1} @tab.a2))) (And.intro (And.intro @tab.a3 (And.intro @tab.a4 @tab.s2)) (And.intro @tab.s3 (And.intro @tab.s4 @tab.u69))))
def rigpb0 :=
  (And.intro (And.intro rigpc0 rigpc1) (And.intro @idrs_len @lrows_length))
def rigpb1 :=
  (And.intro (And.intro (And.intro rigpc0 rigpc1) (And.intro @bwk_a @eq_self.{1})) (And.intro (And.intro @forall_const.{1} @idrs_len) (And.intro @implies_true.{0} (And.intro @implies_true.{1} @lrows_length))))
def rigpb2 :=
  (And.intro (And.intro (And.intro rigpc0 rigpc1) (And.intro @Bool.true_and (And.intro @bwk_a @eq_self.{1}))) (And.intro (And.intro @forall_const.{1} @idrs_len) (And.intro @implies_true.{0} (And.intro @implies_true.{1} @lrows_length))))
set_option maxHeartbeats 4000000 in
theorem numOk_calls (ns : List Int) (o : Bool) (hl : ns.length < 4611686018427387904) : SCall Try.prog 168 [.rsl 1 (lrows ns), .ptr 0 0 0] [okR o] fun r L => r = .ret (.tup []) ∧ L = [okR (o && allNN ns)] := by
  unfold okR
  refine SCall.mk (fn := Try.f168) (by kernel_rfl) rfl (Nat.le_of_ble_eq_true (by kernel_rfl)) ?_
  refine Sem.go (k := 1000) ?_
  simp -dsimp (decide := true) (disch := first | omega | simp (decide := true) only [bdset_a, lrows_length, lrows_flat, idrs_len]) only [rigpb0, ↓brun_b, envOf]
  refine Sem.loop (ι := {k : Nat // k ≤ ns.length}) (fun k => ⟨17, 1, [(1, .ptr 0 0 0), (5, .rsl 1 (lrows ns)), (6, .v (.int .i64 (ns.length : Int))), (7, .v (.int .i64 (k.1 : Int)))], [some (.row ⟨1, 1, true, 4, fun _ => [.v (.bool (o && allNN (ns.take k.1)))]⟩)]⟩) (fun k => ns.length - k.1) ⟨0, Nat.zero_le _⟩ [0] ?_ ?_
  · have h0 : (o && allNN (ns.take 0)) = o := by simp [allNN]
    (refine Wk.ofC ?_; simp -dsimp (decide := true) (disch := first | omega | simp (decide := true) only [bdset_a, lrows_length, lrows_flat, idrs_len]) only [rigpb1, ↓brun_b, Nat.reduceBEq, h0])
  · rintro ⟨k, hk⟩
    refine Sem.go (k := 1000) ?_
    simp -dsimp (decide := true) (disch := first | omega | simp (decide := true) only [bdset_a, lrows_length, lrows_flat, idrs_len]) only [rigpb0, ↓brun_b, Nat.reduceBEq]
    refine SCond.split (fun h => ?_) (fun h => ?_)
    · simp only [decide_eq_true_eq] at h
      have hk' : k < ns.length := by omega
      have hwk : IntKind.i64.wrap ((k : Int) + 1) = ((k + 1 : Nat) : Int) := by rw [wrap_i64 _ (by omega)]; rfl
      have hft : (o && allNN (ns.take (k + 1))) = ((o && allNN (ns.take k)) && decide (0 ≤ ns.getD k 0)) := by
        unfold allNN
        rw [all_take _ ns k hk', Bool.and_assoc]
      have hat := lrows_at ns k hk'
      generalize hO : (o && allNN (ns.take k)) = O at *
      cases O with
      | false =>
        simp -dsimp (decide := true) (disch := first | omega | simp (decide := true) only [bdset_a, lrows_length, lrows_flat, idrs_len]) only [rigpb0, ↓brun_b, Nat.reduceBEq, Nat.reduceLeDiff, hat, lrow, hwk]
        refine And.intro (by omega) ?_
        refine ⟨⟨k + 1, by omega⟩, [0], ?_, by show ns.length - (k + 1) < ns.length - k; omega⟩
        (refine Wk.ofC ?_; simp -dsimp (decide := true) (disch := first | omega | simp (decide := true) only [bdset_a, lrows_length, lrows_flat, idrs_len]) only [rigpb1, ↓brun_b, Nat.reduceBEq, hft])
      | true =>
        simp -dsimp (decide := true) (disch := first | omega | simp (decide := true) only [bdset_a, lrows_length, lrows_flat, idrs_len]) only [rigpb0, ↓brun_b, Nat.reduceBEq, Nat.reduceLeDiff, hat, lrow, hwk]
        refine And.intro (by omega) ?_
        refine ⟨⟨k + 1, by omega⟩, [0], ?_, by show ns.length - (k + 1) < ns.length - k; omega⟩
        (refine Wk.ofC ?_; simp -dsimp (decide := true) (disch := first | omega | simp (decide := true) only [bdset_a, lrows_length, lrows_flat, idrs_len]) only [rigpb2, ↓brun_b, Nat.reduceBEq, hft])
    · simp only [decide_eq_false_iff_not] at h
      obtain rfl : k = ns.length := by omega
      have hft : ns.take ns.length = ns := List.take_length
      simp -dsimp (decide := true) (disch := first | omega | simp (decide := true) only [bdset_a, lrows_length, lrows_flat, idrs_len]) only [rigpb0, reduceIte, hft]
      refine SQ.fin (SQ.runL (rs := []) [0] (.tup []) _ rfl (And.intro rfl rfl) (by decide) rfl rfl ?_ ?_)
      · simp -dsimp (decide := true) (disch := first | omega | simp (decide := true) only [bdset_a, lrows_length, lrows_flat, idrs_len]) only [rigpb1]
      · simp -dsimp (decide := true) (disch := first | omega | simp (decide := true) only [bdset_a, lrows_length, lrows_flat, idrs_len]) only [rigpb1, ↓brun_b]
        exact Ent.eq rfl
end Go.Proofs
namespace Go.Proofs
open Go Go.SL
set_option maxRecDepth 100000
theorem al4 (N : Nat) : sAlloc Try.prog N 4 = some ⟨.ptr N 0 0, ⟨none, some (.row ⟨1, 1, true, 4, fun _ => [.v (.bool false)]⟩)⟩, True⟩ := sAlloc_eq N 4 _ tab.z4 rfl
def rightB (k : Nat) (F : Frm) : Bool :=
  match k with
  | 1 => allNN [F.fi, F.fn, F.ti, F.tn]
  | 2 => allNN [F.fi, F.fn, F.ti, F.tn, F.n] && decide (F.tx.length ≤ 4096)
  | 3 => allNN [F.fi, F.fn, F.ti, F.tn, F.n]
  | 4 => allNN [F.pn] && trB F.tr
  | 5 => allNN [F.pn]
  | 6 => allNN [F.pn]
  | 7 => allNN [F.pn] && decide (F.is.length ≤ 16)
  | 8 => allNN [F.pn] && trB F.tr && decide (0 ≤ F.op) && decide (F.op ≤ 3)
  | 9 => allNN [F.n]
  | 10 => allNN [F.n, F.vn] && decide (1 ≤ F.op) && decide (F.op ≤ 4) && decide (0 ≤ F.ttl) && decide (F.ttl ≤ 64) && decide (F.val.length ≤ 64) && decide (F.tx.length ≤ 64)
  | 11 => allNN [F.pn, F.vn] && decide (F.val.length ≤ 64)
  | 12 => allNN [F.pn, F.vn]
  | _ => false
theorem numOk1 (ns : List Int) (o : Bool) (h : allNN ns = o) (hl : ns.length < 4611686018427387904) : SCall Try.prog 168 [.rsl 1 (lrows ns), .ptr 0 0 0] [some (.row ⟨1, 1, true, 4, fun _ => [.v (.bool true)]⟩)] fun r L => r = .ret (.tup []) ∧ L = [some (.row ⟨1, 1, true, 4, fun _ => [.v (.bool o)]⟩)] := by
  have := numOk_calls ns true hl
  rw [Bool.true_and, h] at this
  exact this
def rigpc2 :=
  (And.intro (And.intro (And.intro @AD.c_length @AK.c_length) (And.intro @CP.c_length (And.intro @DR.c_length @GT.c_length))) (And.intro (And.intro @H1.c_length @PE.c_length) (And.intro @PK.c_length (And.intro @PT.c_length @SU.c_length))))
def rigpb3 :=
  (And.intro (And.intro (And.intro (And.intro rigpc2 @AD.one) (And.intro @AK.one (And.intro @CP.one @DR.one))) (And.intro (And.intro @GT.one @H1.one) (And.intro @PE.one (And.intro @PK.one @PT.one)))) (And.intro (And.intro (And.intro @SU.one @bdset_a) (And.intro @idrs_len (And.intro @lrows_flat @lrows_length))) (And.intro (And.intro @zD.eq_1 @zE.eq_1) (And.intro @zF.eq_1 (And.intro @zH.eq_1 @zK.eq_1)))))
def rigpc3 :=
  (And.intro (And.intro (And.intro (And.intro (And.intro @AD.at_n @AD.set_all) (And.intro @AK.at_op @AK.at_pn)) (And.intro (And.intro @AK.at_tr @AK.set_all) (And.intro @CP.at_pn @CP.at_val))) (And.intro (And.intro (And.intro @CP.set_all @DR.at_pn) (And.intro @DR.set_all @GT.at_pn)) (And.intro (And.intro @GT.set_all @H1.set_all) (And.intro @List.replicate_succ.{0} (And.intro @List.replicate_zero.{0} @PE.at_is))))) (And.intro (And.intro (And.intro (And.intro @PE.at_pn @PE.set_all) (And.intro @PK.at_n @PK.at_op)) (And.intro (And.intro @PK.at_ttl @PK.at_tx) (And.intro @PK.at_val (And.intro @PK.set_all @PT.at_pn)))) (And.intro (And.intro (And.intro @PT.set_all @SU.at_pn) (And.intro @SU.at_tr @SU.set_all)) (And.intro (And.intro @al230 @al232) (And.intro @al4 (And.intro @hit230 @sop_assert))))))
def rigpc4 :=
  (And.intro (And.intro (And.intro (And.intro @tab.a145 @tab.a35) (And.intro @tab.a79 @tab.f135x0)) (And.intro (And.intro @tab.f135x1 @tab.f144x1) (And.intro @tab.f147x0 (And.intro @tab.f149x1 @tab.f149x2)))) (And.intro (And.intro (And.intro @tab.f230x0 @tab.s145) (And.intro @tab.s230 @tab.s232)) (And.intro (And.intro @tab.s35 @tab.s79) (And.intro @tab.u145 (And.intro @tab.u35 @tab.u79)))))
def rigpb4 :=
  (And.intro (And.intro rigpc3 (And.intro rigpc2 rigpc0)) (And.intro (And.intro rigpc1 rigpc4) (And.intro @idrs_len @lrows_length)))
def rigpb5 :=
  (And.intro (And.intro (And.intro rigpc3 (And.intro rigpc2 rigpc0)) (And.intro rigpc1 (And.intro rigpc4 @bwk_a))) (And.intro (And.intro @eq_self.{1} (And.intro @forall_const.{1} @idrs_len)) (And.intro @implies_true.{0} (And.intro @implies_true.{1} @lrows_length))))
def rigpb6 :=
  (And.intro rigpc1 rigpc4)
set_option maxHeartbeats 4000000 in
theorem right_k5 (F : Frm) : Pure Try.prog 121 [.ifc 230 (.agg (DR.c ⟨F.who, .v (.int .i64 F.pn)⟩))] (.v (.bool (rightB 5 F))) := by
  generalize hO : allNN [F.pn] = O
  have c1 := numOk1 [F.pn] O hO (by show 1 < 4611686018427387904; decide)
  refine SCall.mk (fn := Try.f121) (by kernel_rfl) rfl (Nat.le_of_ble_eq_true (by kernel_rfl)) ?_
  refine Sem.go (k := 1000) ?_
  simp -dsimp (decide := true) (disch := first | omega | simp (decide := true) only [rigpb3]) only [rigpb4, ↓brun_b, envOf, Nat.reduceAdd, Nat.reduceBEq, fun v => miss232 230 v (by decide), fun v => miss214 230 v (by decide), fun v => miss210 230 v (by decide), fun v => miss218 230 v (by decide), fun v => miss226 230 v (by decide)]
  refine SemOps.frz (d := 121) (lrows [F.pn]) rfl rfl rfl (by omega) (fun i r h => ent_icells h) ?_
  refine SemOps.callwc [0] cal.f168 (c1) rfl rfl rfl (by simp -dsimp (decide := true) (disch := first | omega | simp (decide := true) only [rigpb3]) only [rigpb5, ↓brun_b, Nat.reduceAdd]) rfl (by simp -dsimp (decide := true) (disch := first | omega | simp (decide := true) only [rigpb3]) only [rigpb5, Nat.reduceAdd]) (by simp -dsimp (decide := true) (disch := first | omega | simp (decide := true) only [rigpb3]) only [rigpb6]) ?_
  refine SemOps.go (k := 1000) ?_
  simp -dsimp (decide := true) (disch := first | omega | simp (decide := true) only [rigpb3]) only [rigpb4, ↓brun_b, Nat.reduceAdd, Nat.reduceBEq]
  have hE : rightB 5 F = O := by simp only [rightB, hO]
  rw [hE]
  refine SQ.answer (rs := [.tmp 2]) rfl rfl ?_
  simp -dsimp (decide := true) (disch := first | omega | simp (decide := true) only [rigpb3]) only [rigpb5, ↓brun_b, Nat.reduceAdd, rho]
end Go.Proofs
