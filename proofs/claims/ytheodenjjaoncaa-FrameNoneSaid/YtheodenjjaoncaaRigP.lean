/- Contracts of functions that the laws reach, on abstract values, and what they need: no conditions but those that each theorem states. -/
import Derived.Test.YtheodenjjaoncaaLayP
import Derived.Test.YtheodenjjaoncaaBodP
set_option linter.unusedVariables false
set_option linter.unusedSimpArgs false
set_option linter.defProp false
namespace Go.SL
open Go
section
variable {P : Program} {Q : SX → St → Prop} {K : List It} {s : St}
theorem SemOps.callwc {all rest : List Oper} {op : Oper} {fo : Operand} {argos : Array Operand} {ats : Array TypeId} {f : FuncId} {x : SV} {fi ca ac : List SV} {Lc L1 : List (Option SK)} (l : List Nat)
    (hcal : Cal P f) (hc : SCall P f ac Lc fun r L' => r = .ret x ∧ L' = L1) (hop : op.op = .call ⟨.value fo, argos, ats⟩) (hg : op.guard = none) (hfv : seval s.env fo = .fn (.func f) fi ca)
    (hargs : EntL nofz (rho l s.L.length) ac (fi ++ argos.toList.map (seval s.env) ++ ca)) (hnd : nodupN l = true) (hL : wkL nofz (rho l s.L.length) s.L l Lc)
    (hd : dstOk s op.dst) (next : SemOps P Q all rest K ((s.after l Lc L1).put op.dst (x.ren (rho l s.L.length)))) : SemOps P Q all (op :: rest) K s := by
  refine SemOps.callE hop hg hfv hcal l hc hargs (nodupN_spec hnd) hL hd (fun r L' h => ?_) (fun x L' h => nomatch h.1)
  obtain ⟨h1, rfl⟩ := h
  cases h1
  exact next
end
end Go.SL
namespace Go.Proofs
open Go Go.SL
set_option maxRecDepth 100000
def allNN (ns : List Int) : Bool := ns.all fun v => decide (0 ≤ v)
def allTr (ns : List Int) : Bool := ns.all fun v => decide (0 ≤ v) && decide (v < 6)
def trB (l : List Int) : Bool := decide (l.length ≤ 64) && allTr l
theorem all_take (p : Int → Bool) (ns : List Int) (k : Nat) (h : k < ns.length) : (ns.take (k + 1)).all p = ((ns.take k).all p && p (ns.getD k 0)) := by
  rw [List.take_add_one, List.all_append, List.getD_eq_getElem?_getD, List.getElem?_eq_getElem h]
  simp
def okR (o : Bool) : Option SK := some (.row ⟨1, 1, true, 4, fun _ => [.v (.bool o)]⟩)
def rigpc0 :=
  (And.intro (And.intro (And.intro @I16.flat (And.intro @I16.one @IC.flat)) (And.intro @IC.one (And.intro @bdset_a @brow_flat))) (And.intro (And.intro @bsl_flat (And.intro @idrs_flat @lrow_len)) (And.intro @lrows_flat (And.intro @p144_flat @p144_one))))
def rigpb0 :=
  (And.intro (And.intro (And.intro (And.intro rigpc0 @I16.c_length) (And.intro @IC.c_length @bcells_flat)) (And.intro (And.intro @bcells_length @bcells_one) (And.intro @brow_len @idrs_len))) (And.intro (And.intro (And.intro @lrows_length @nres.flat) (And.intro @p144_len @tres.flat)) (And.intro (And.intro @urow_len @urows.flat) (And.intro @urows_length @z16_length))))
def rigpc1 :=
  (And.intro (And.intro (And.intro (And.intro @I16.part @Int.cast_ofNat_Int) (And.intro @SKren_row @after_mk)) (And.intro (And.intro @brow_cell @bs69_1) (And.intro @cellAt_succ (And.intro @cellAt_zero @mergeL_done)))) (And.intro (And.intro (And.intro @mergeL_own @mergeL_row) (And.intro @renL_cons @renL_flat)) (And.intro (And.intro @renL_nil @ren_tup) (And.intro @splice_0 (And.intro @splice_c @splice_s)))))
def rigpc2 :=
  (And.intro (And.intro (And.intro @al23n @brows_at) (And.intro @bs79 @cl17)) (And.intro (And.intro @i16n_set @p144_part) (And.intro @sp17a (And.intro @urow_cell @urows_at))))
def rigpc3 :=
  (And.intro (And.intro (And.intro @beq_self_eq_true.{0} (And.intro @brun_a @cond_false.{1})) (And.intro (And.intro @cond_true.{1} @tab.a2) (And.intro @tab.a3 @tab.a4))) (And.intro (And.intro @tab.s2 (And.intro @tab.s3 @tab.s4)) (And.intro (And.intro @tab.u2 @tab.u3) (And.intro @tab.u4 @tab.u69))))
def rigpb1 :=
  (And.intro (And.intro (And.intro rigpc1 rigpc2) (And.intro rigpc3 (And.intro @I16.c_length @brow_len))) (And.intro (And.intro @idrs_len @lrows_length) (And.intro @p144_len (And.intro @urow_len @urows_length))))
def rigpb2 :=
  (And.intro (And.intro (And.intro rigpc1 (And.intro rigpc2 rigpc3)) (And.intro (And.intro @I16.c_length @brow_len) (And.intro @bwk_a @eq_self.{1}))) (And.intro (And.intro (And.intro @forall_const.{1} @idrs_len) (And.intro @implies_true.{0} @implies_true.{1})) (And.intro (And.intro @lrows_length @p144_len) (And.intro @urow_len @urows_length))))
def rigpb3 :=
  (And.intro (And.intro (And.intro (And.intro rigpc1 rigpc2) (And.intro rigpc3 @Bool.true_and)) (And.intro (And.intro @I16.c_length @brow_len) (And.intro @bwk_a @eq_self.{1}))) (And.intro (And.intro (And.intro @forall_const.{1} @idrs_len) (And.intro @implies_true.{0} @implies_true.{1})) (And.intro (And.intro @lrows_length @p144_len) (And.intro @urow_len @urows_length))))
set_option maxHeartbeats 4000000 in
theorem numOk_calls (ns : List Int) (o : Bool) (hl : ns.length < 4611686018427387904) : SCall Try.prog 168 [.rsl 1 (lrows ns), .ptr 0 0 0] [okR o] fun r L => r = .ret (.tup []) ∧ L = [okR (o && allNN ns)] := by
  unfold okR
  refine SCall.mk (fn := Try.f168) (by kernel_rfl) rfl (Nat.le_of_ble_eq_true (by kernel_rfl)) ?_
  refine Sem.go (k := 1000) ?_
  simp -dsimp (decide := true) (maxSteps := 1000000) (disch := first | omega | simp (decide := true) only [rigpb0]) only [rigpb1, ↓brun_b, envOf, reduceIte, Nat.reduceEqDiff, Nat.reduceAdd, Nat.reduceSub, Nat.reduceMul, Nat.reduceBEq, Nat.reduceLeDiff, Nat.reduceLT, Int.reduceToNat, rho]
  refine Sem.loop (ι := {k : Nat // k ≤ ns.length}) (fun k => ⟨17, 1, [(1, .ptr 0 0 0), (5, .rsl 1 (lrows ns)), (6, .v (.int .i64 (ns.length : Int))), (7, .v (.int .i64 (k.1 : Int)))], [some (.row ⟨1, 1, true, 4, fun _ => [.v (.bool (o && allNN (ns.take k.1)))]⟩)]⟩) (fun k => ns.length - k.1) ⟨0, Nat.zero_le _⟩ [0] ?_ ?_
  · have h0 : (o && allNN (ns.take 0)) = o := by simp [allNN]
    (refine Wk.ofC ?_; simp -dsimp (decide := true) (maxSteps := 1000000) (disch := first | omega | simp (decide := true) only [rigpb0]) only [rigpb2, ↓brun_b, envOf, reduceIte, Nat.reduceEqDiff, Nat.reduceAdd, Nat.reduceSub, Nat.reduceMul, Nat.reduceBEq, Nat.reduceLeDiff, Nat.reduceLT, Int.reduceToNat, rho, h0, frz1, ↓reduceIte])
  · rintro ⟨k, hk⟩
    refine Sem.go (k := 1000) ?_
    simp -dsimp (decide := true) (maxSteps := 1000000) (disch := first | omega | simp (decide := true) only [rigpb0]) only [rigpb1, ↓brun_b, envOf, reduceIte, Nat.reduceEqDiff, Nat.reduceAdd, Nat.reduceSub, Nat.reduceMul, Nat.reduceBEq, Nat.reduceLeDiff, Nat.reduceLT, Int.reduceToNat, rho]
    refine SCond.split (fun h => ?_) (fun h => ?_)
    · simp only [decide_eq_true_eq] at h
      have hk' : k < ns.length := by omega
      have hwk : IntKind.i64.wrap ((k : Int) + 1) = ((k + 1 : Nat) : Int) := by rw [wrap_i64 _ (by omega)]; rfl
      have hft : (o && allNN (ns.take (k + 1))) = ((o && allNN (ns.take k)) && decide (0 ≤ ns.getD k 0)) := by
        unfold allNN
        rw [all_take _ ns k hk', Bool.and_assoc]
      have hat := lrows_at ns k hk'
      generalize hO : (o && allNN (ns.take k)) = O at *
      cases O with
      | false =>
        simp -dsimp (decide := true) (maxSteps := 1000000) (disch := first | omega | simp (decide := true) only [rigpb0]) only [rigpb1, ↓brun_b, envOf, reduceIte, Nat.reduceEqDiff, Nat.reduceAdd, Nat.reduceSub, Nat.reduceMul, Nat.reduceBEq, Nat.reduceLeDiff, Nat.reduceLT, Int.reduceToNat, rho, hat, lrow, hwk]
        refine And.intro (by omega) ?_
        refine ⟨⟨k + 1, by omega⟩, [0], ?_, by show ns.length - (k + 1) < ns.length - k; omega⟩
        (refine Wk.ofC ?_; simp -dsimp (decide := true) (maxSteps := 1000000) (disch := first | omega | simp (decide := true) only [rigpb0]) only [rigpb2, ↓brun_b, envOf, reduceIte, Nat.reduceEqDiff, Nat.reduceAdd, Nat.reduceSub, Nat.reduceMul, Nat.reduceBEq, Nat.reduceLeDiff, Nat.reduceLT, Int.reduceToNat, rho, hft, Bool.false_and, frz1, ↓reduceIte])
      | true =>
        simp -dsimp (decide := true) (maxSteps := 1000000) (disch := first | omega | simp (decide := true) only [rigpb0]) only [rigpb1, ↓brun_b, envOf, reduceIte, Nat.reduceEqDiff, Nat.reduceAdd, Nat.reduceSub, Nat.reduceMul, Nat.reduceBEq, Nat.reduceLeDiff, Nat.reduceLT, Int.reduceToNat, rho, hat, lrow, hwk]
        refine And.intro (by omega) ?_
        refine ⟨⟨k + 1, by omega⟩, [0], ?_, by show ns.length - (k + 1) < ns.length - k; omega⟩
        (refine Wk.ofC ?_; simp -dsimp (decide := true) (maxSteps := 1000000) (disch := first | omega | simp (decide := true) only [rigpb0]) only [rigpb3, ↓brun_b, envOf, reduceIte, Nat.reduceEqDiff, Nat.reduceAdd, Nat.reduceSub, Nat.reduceMul, Nat.reduceBEq, Nat.reduceLeDiff, Nat.reduceLT, Int.reduceToNat, rho, hft, frz1, ↓reduceIte])
    · simp only [decide_eq_false_iff_not] at h
      obtain rfl : k = ns.length := by omega
      have hft : ns.take ns.length = ns := List.take_length
      simp -dsimp (decide := true) (maxSteps := 1000000) (disch := first | omega | simp (decide := true) only [rigpb0]) only [rigpb1, ↓brun_b, envOf, reduceIte, Nat.reduceEqDiff, Nat.reduceAdd, Nat.reduceSub, Nat.reduceMul, Nat.reduceBEq, Nat.reduceLeDiff, Nat.reduceLT, Int.reduceToNat, rho, hft]
      refine SQ.fin (SQ.runL (rs := []) [0] (.tup []) _ rfl (And.intro rfl rfl) (by decide) rfl rfl ?_ ?_)
      · simp -dsimp (decide := true) (maxSteps := 1000000) (disch := first | omega | simp (decide := true) only [rigpb0]) only [rigpb2, ↓brun_b, envOf, reduceIte, Nat.reduceEqDiff, Nat.reduceAdd, Nat.reduceSub, Nat.reduceMul, Nat.reduceBEq, Nat.reduceLeDiff, Nat.reduceLT, Int.reduceToNat, rho, frz1, ↓reduceIte]
      · simp -dsimp (decide := true) (maxSteps := 1000000) (disch := first | omega | simp (decide := true) only [rigpb0]) only [rigpb2, ↓brun_b, envOf, reduceIte, Nat.reduceEqDiff, Nat.reduceAdd, Nat.reduceSub, Nat.reduceMul, Nat.reduceBEq, Nat.reduceLeDiff, Nat.reduceLT, Int.reduceToNat, rho, frz1, ↓reduceIte]
        exact Ent.eq rfl
end Go.Proofs
namespace Go.Proofs
open Go Go.SL
set_option maxRecDepth 100000
theorem al4 (N : Nat) : sAlloc Try.prog N 4 = some ⟨.ptr N 0 0, ⟨none, some (.row ⟨1, 1, true, 4, fun _ => [.v (.bool false)]⟩)⟩, True⟩ := sAlloc_eq N 4 _ tab.z4 rfl
def rightB (k : Nat) (F : Frm) : Bool :=
  match k with
  | 1 => allNN [F.fi, F.fn, F.ti, F.tn]
  | 2 => allNN [F.fi, F.fn, F.ti, F.tn, F.n] && decide (F.tx.length ≤ 4096)
  | 3 => allNN [F.fi, F.fn, F.ti, F.tn, F.n]
  | 4 => allNN [F.pn] && trB F.tr
  | 5 => allNN [F.pn]
  | 6 => allNN [F.pn]
  | 7 => allNN [F.pn] && decide (F.is.length ≤ 16)
  | 8 => allNN [F.pn] && trB F.tr && decide (0 ≤ F.op) && decide (F.op ≤ 3)
  | 9 => allNN [F.n]
  | 10 => allNN [F.n, F.vn] && decide (1 ≤ F.op) && decide (F.op ≤ 4) && decide (0 ≤ F.ttl) && decide (F.ttl ≤ 64) && decide (F.val.length ≤ 64) && decide (F.tx.length ≤ 64)
  | 11 => allNN [F.pn, F.vn] && decide (F.val.length ≤ 64)
  | 12 => allNN [F.pn, F.vn]
  | _ => false
theorem numOk1 (ns : List Int) (o : Bool) (h : allNN ns = o) (hl : ns.length < 4611686018427387904) : SCall Try.prog 168 [.rsl 1 (lrows ns), .ptr 0 0 0] [some (.row ⟨1, 1, true, 4, fun _ => [.v (.bool true)]⟩)] fun r L => r = .ret (.tup []) ∧ L = [some (.row ⟨1, 1, true, 4, fun _ => [.v (.bool o)]⟩)] := by
  have := numOk_calls ns true hl
  rw [Bool.true_and, h] at this
  exact this
def rigpc4 :=
  (And.intro (And.intro (And.intro @AD.c_length (And.intro @AK.c_length @CP.c_length)) (And.intro @DR.c_length (And.intro @EC.c_length @FC.c_length))) (And.intro (And.intro @GT.c_length (And.intro @H1.c_length @PE.c_length)) (And.intro @PK.c_length (And.intro @PT.c_length @SU.c_length))))
def rigpb4 :=
  (And.intro (And.intro (And.intro (And.intro (And.intro rigpc4 rigpc0) (And.intro @AD.flat @AD.one)) (And.intro (And.intro @AK.flat @AK.one) (And.intro @CP.flat (And.intro @CP.one @DR.flat)))) (And.intro (And.intro (And.intro @DR.one @EC.flat) (And.intro @EC.one (And.intro @FC.flat_eq @FC.one_eq))) (And.intro (And.intro @GT.flat @GT.one) (And.intro @H1.flat (And.intro @H1.one @I16.c_length))))) (And.intro (And.intro (And.intro (And.intro @IC.c_length @PE.flat) (And.intro @PE.one @PK.flat)) (And.intro (And.intro @PK.one @PT.flat) (And.intro @PT.one (And.intro @SU.flat @SU.one)))) (And.intro (And.intro (And.intro @brow_len @frm_flat) (And.intro @idrs_len (And.intro @lrows_length @p144_len))) (And.intro (And.intro @zD.eq_1 @zE.eq_1) (And.intro @zF.eq_1 (And.intro @zH.eq_1 @zK.eq_1))))))
def rigpc5 :=
  (And.intro (And.intro (And.intro (And.intro (And.intro (And.intro @AD.at_n @AD.part) (And.intro @AD.part_a (And.intro @AD.set_all @AK.at_op))) (And.intro (And.intro @AK.at_pn (And.intro @AK.at_toA @AK.at_tr)) (And.intro @AK.part (And.intro @AK.part_P @AK.part_a)))) (And.intro (And.intro (And.intro @AK.part_b @AK.set_all) (And.intro @CP.at_pn (And.intro @CP.at_toA @CP.at_val))) (And.intro (And.intro @CP.part (And.intro @CP.part_P @CP.part_it)) (And.intro @CP.part_key (And.intro @CP.set_all @DR.at_pn))))) (And.intro (And.intro (And.intro (And.intro @DR.part_P @DR.set_all) (And.intro @EC.at_op (And.intro @EC.at_pn @EC.ent))) (And.intro (And.intro @EC.part (And.intro @EC.set_all @EC.set_op)) (And.intro @FC.ent (And.intro @FC.part @FC.set_all)))) (And.intro (And.intro (And.intro @GT.at_pn (And.intro @GT.at_toA @GT.part)) (And.intro @GT.part_P (And.intro @GT.part_key @GT.part_ver))) (And.intro (And.intro @GT.set_all (And.intro @H1.part @H1.part_a)) (And.intro @H1.part_from (And.intro @H1.part_to @H1.set_all)))))) (And.intro (And.intro (And.intro (And.intro (And.intro @IC.at_val @IC.part_key) (And.intro @IC.part_ver (And.intro @List.replicate_succ.{0} @List.replicate_zero.{0}))) (And.intro (And.intro @PE.at_is (And.intro @PE.at_pn @PE.at_toA)) (And.intro @PE.part (And.intro @PE.part_P @PE.set_all)))) (And.intro (And.intro (And.intro @PK.at_n (And.intro @PK.at_op @PK.at_ttl)) (And.intro @PK.at_tx (And.intro @PK.at_val @PK.part))) (And.intro (And.intro @PK.part_a (And.intro @PK.part_b @PK.part_it)) (And.intro @PK.part_key (And.intro @PK.set_all @PT.at_pn))))) (And.intro (And.intro (And.intro (And.intro @PT.at_toA @PT.part) (And.intro @PT.part_P (And.intro @PT.set_all @SU.at_pn))) (And.intro (And.intro @SU.at_tr (And.intro @SU.part @SU.part_P)) (And.intro @SU.part_a (And.intro @SU.part_b @SU.set_all)))) (And.intro (And.intro (And.intro @al149 (And.intro @al151 @al230)) (And.intro @al232 (And.intro @al4 @build151z))) (And.intro (And.intro @build214 (And.intro @hit230 @mk210)) (And.intro @mk214 (And.intro @mk218 @sop_assert)))))))
def rigpc6 :=
  (And.intro (And.intro (And.intro (And.intro (And.intro (And.intro @tab.a135 @tab.a144) (And.intro @tab.a145 (And.intro @tab.a147 @tab.a149))) (And.intro (And.intro @tab.a23 @tab.a35) (And.intro @tab.a5 (And.intro @tab.a79 @tab.f144x0)))) (And.intro (And.intro (And.intro @tab.f144x1 @tab.f149x0) (And.intro @tab.f149x1 (And.intro @tab.f149x2 @tab.f214x0))) (And.intro (And.intro @tab.f214x1 @tab.f214x2) (And.intro @tab.f226x0 (And.intro @tab.f226x1 @tab.f226x2))))) (And.intro (And.intro (And.intro (And.intro @tab.f226x3 @tab.f230x0) (And.intro @tab.f232x0 (And.intro @tab.f232x1 @tab.f235x0))) (And.intro (And.intro @tab.f235x1 @tab.f235x2) (And.intro @tab.f237x0 (And.intro @tab.f237x1 @tab.f237x2)))) (And.intro (And.intro (And.intro @tab.f237x3 @tab.f237x4) (And.intro @tab.f237x5 (And.intro @tab.f239x0 @tab.f239x1))) (And.intro (And.intro @tab.f241x0 @tab.f241x1) (And.intro @tab.f241x2 (And.intro @tab.f241x3 @tab.f241x4)))))) (And.intro (And.intro (And.intro (And.intro (And.intro @tab.f241x5 @tab.f241x6) (And.intro @tab.f244x0 (And.intro @tab.f244x1 @tab.f244x2))) (And.intro (And.intro @tab.f246x0 @tab.f246x1) (And.intro @tab.f246x2 (And.intro @tab.f246x3 @tab.s135)))) (And.intro (And.intro (And.intro @tab.s144 @tab.s145) (And.intro @tab.s147 (And.intro @tab.s149 @tab.s23))) (And.intro (And.intro @tab.s230 @tab.s232) (And.intro @tab.s35 (And.intro @tab.s5 @tab.s79))))) (And.intro (And.intro (And.intro (And.intro @tab.u135 @tab.u144) (And.intro @tab.u145 (And.intro @tab.u147 @tab.u181))) (And.intro (And.intro @tab.u210 @tab.u214) (And.intro @tab.u218 (And.intro @tab.u226 @tab.u23)))) (And.intro (And.intro (And.intro @tab.u230 @tab.u232) (And.intro @tab.u235 (And.intro @tab.u237 @tab.u239))) (And.intro (And.intro @tab.u241 (And.intro @tab.u244 @tab.u246)) (And.intro @tab.u35 (And.intro @tab.u5 @tab.u79)))))))
def rigpb5 :=
  (And.intro (And.intro (And.intro rigpc5 rigpc4) (And.intro rigpc1 (And.intro rigpc3 rigpc6))) (And.intro (And.intro @I16.c_length @IC.c_length) (And.intro @brow_len (And.intro @idrs_len @lrows_length))))
def rigpb6 :=
  (And.intro (And.intro (And.intro rigpc5 (And.intro rigpc4 rigpc1)) (And.intro (And.intro rigpc3 rigpc6) (And.intro @I16.c_length @IC.c_length))) (And.intro (And.intro (And.intro @brow_len @bwk_a) (And.intro @eq_self.{1} @forall_const.{1})) (And.intro (And.intro @idrs_len @implies_true.{0}) (And.intro @implies_true.{1} @lrows_length))))
def rigpb7 :=
  (And.intro rigpc3 rigpc6)
set_option maxHeartbeats 4000000 in
theorem right_k5 (F : Frm) : Pure Try.prog 121 [.ifc 230 (.agg (DR.c ⟨F.who, .v (.int .i64 F.pn)⟩))] (.v (.bool (rightB 5 F))) := by
  generalize hO : allNN [F.pn] = O
  have c1 := numOk1 [F.pn] O hO (by show 1 < 4611686018427387904; decide)
  refine SCall.mk (fn := Try.f121) (by kernel_rfl) rfl (Nat.le_of_ble_eq_true (by kernel_rfl)) ?_
  refine Sem.go (k := 1000) ?_
  simp -dsimp (decide := true) (maxSteps := 1000000) (disch := first | omega | simp (decide := true) only [rigpb4]) only [rigpb5, ↓brun_b, envOf, reduceIte, Nat.reduceEqDiff, Nat.reduceAdd, Nat.reduceSub, Nat.reduceMul, Nat.reduceBEq, Nat.reduceLeDiff, Nat.reduceLT, Int.reduceToNat, rho, fun v => miss232 230 v (by decide), fun v => miss214 230 v (by decide), fun v => miss210 230 v (by decide), fun v => miss218 230 v (by decide), fun v => miss226 230 v (by decide)]
  refine SemOps.frz (d := 121) (lrows [F.pn]) rfl rfl rfl (by omega) (fun i r h => ent_icells h) ?_
  refine SemOps.callwc [0] cal.f168 (c1) rfl rfl rfl (by simp -dsimp (decide := true) (maxSteps := 1000000) (disch := first | omega | simp (decide := true) only [rigpb4]) only [rigpb6, ↓brun_b, envOf, reduceIte, Nat.reduceEqDiff, Nat.reduceAdd, Nat.reduceSub, Nat.reduceMul, Nat.reduceBEq, Nat.reduceLeDiff, Nat.reduceLT, Int.reduceToNat, rho, frz1, ↓reduceIte]) rfl (by simp -dsimp (decide := true) (maxSteps := 1000000) (disch := first | omega | simp (decide := true) only [rigpb4]) only [rigpb6, ↓brun_b, envOf, reduceIte, Nat.reduceEqDiff, Nat.reduceAdd, Nat.reduceSub, Nat.reduceMul, Nat.reduceBEq, Nat.reduceLeDiff, Nat.reduceLT, Int.reduceToNat, rho, frz1, ↓reduceIte]) (by simp -dsimp (decide := true) (maxSteps := 1000000) (disch := first | omega | simp (decide := true) only [rigpb4]) only [rigpb7, ↓brun_b, envOf, reduceIte, Nat.reduceEqDiff, Nat.reduceAdd, Nat.reduceSub, Nat.reduceMul, Nat.reduceBEq, Nat.reduceLeDiff, Nat.reduceLT, Int.reduceToNat]) ?_
  refine SemOps.go (k := 1000) ?_
  simp -dsimp (decide := true) (maxSteps := 1000000) (disch := first | omega | simp (decide := true) only [rigpb4]) only [rigpb5, ↓brun_b, envOf, reduceIte, Nat.reduceEqDiff, Nat.reduceAdd, Nat.reduceSub, Nat.reduceMul, Nat.reduceBEq, Nat.reduceLeDiff, Nat.reduceLT, Int.reduceToNat, rho]
  have hE : rightB 5 F = O := by simp only [rightB, hO, Bool.false_and, Bool.true_and, Bool.and_self]
  rw [hE]
  refine SQ.answer (rs := [.tmp 2]) rfl rfl ?_
  simp -dsimp (decide := true) (maxSteps := 1000000) (disch := first | omega | simp (decide := true) only [rigpb4]) only [rigpb6, ↓brun_b, envOf, reduceIte, Nat.reduceEqDiff, Nat.reduceAdd, Nat.reduceSub, Nat.reduceMul, Nat.reduceBEq, Nat.reduceLeDiff, Nat.reduceLT, Int.reduceToNat, rho, frz1, ↓reduceIte]
end Go.Proofs
