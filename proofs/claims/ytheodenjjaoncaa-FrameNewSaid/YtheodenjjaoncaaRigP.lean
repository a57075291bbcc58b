/- Contracts of functions that the laws reach, on abstract values, and what they need: no conditions but those that each theorem states. -/
import Derived.Test.YtheodenjjaoncaaLayP
import Derived.Test.YtheodenjjaoncaaBodP
set_option linter.unusedVariables false
set_option linter.unusedSimpArgs false
set_option linter.defProp false
namespace Go.SL
open Go
section
variable {P : Program} {Q : SX → St → Prop} {K : List It} {s : St}
theorem SemOps.callwc {all rest : List Oper} {op : Oper} {fo : Operand} {argos : Array Operand} {ats : Array TypeId} {f : FuncId} {x : SV} {fi ca ac : List SV} {Lc L1 : List (Option SK)} (l : List Nat)
    (hcal : Cal P f) (hc : SCall P f ac Lc fun r L' => r = .ret x ∧ L' = L1) (hop : op.op = .call ⟨.value fo, argos, ats⟩) (hg : op.guard = none) (hfv : seval s.env fo = .fn (.func f) fi ca)
    (hargs : EntL nofz (rho l s.L.length) ac (fi ++ argos.toList.map (seval s.env) ++ ca)) (hnd : nodupN l = true) (hL : wkL nofz (rho l s.L.length) s.L l Lc)
    (hd : dstOk s op.dst) (next : SemOps P Q all rest K ((s.after l Lc L1).put op.dst (x.ren (rho l s.L.length)))) : SemOps P Q all (op :: rest) K s := by
  refine SemOps.callE hop hg hfv hcal l hc hargs (nodupN_spec hnd) hL hd (fun r L' h => ?_) (fun x L' h => nomatch h.1)
  obtain ⟨h1, rfl⟩ := h
  cases h1
  exact next
end
end Go.SL
namespace Go.Proofs
open Go Go.SL
set_option maxRecDepth 100000
def allNN (ns : List Int) : Bool := ns.all fun v => decide (0 ≤ v)
def allTr (ns : List Int) : Bool := ns.all fun v => decide (0 ≤ v) && decide (v < 6)
def trB (l : List Int) : Bool := decide (l.length ≤ 64) && allTr l
theorem all_take (p : Int → Bool) (ns : List Int) (k : Nat) (h : k < ns.length) : (ns.take (k + 1)).all p = ((ns.take k).all p && p (ns.getD k 0)) := by
  rw [List.take_add_one, List.all_append, List.getD_eq_getElem?_getD, List.getElem?_eq_getElem h]
  simp
def okR (o : Bool) : Option SK := some (.row ⟨1, 1, true, 4, fun _ => [.v (.bool o)]⟩)
def rigpc0 :=
  (aI (aI (aI @Int.cast_ofNat_Int (aI @SKren_row @after_mk)) (aI (aI @bs69_1 @cellAt_succ) (aI @cellAt_zero @mergeL_done))) (aI (aI @mergeL_own (aI @renL_cons @renL_flat)) (aI (aI @renL_nil @ren_tup) (aI @splice_0 @splice_c))))
def rigpc1 :=
  (aI (aI (aI @beq_self_eq_true.{0} @brun_a) (aI @cond_false.{1} @cond_true.{1})) (aI (aI @tab.a3 @tab.a4) (aI @tab.s3 @tab.s4)))
def rigpb0 :=
  (aI (aI rigpc0 (aI rigpc1 @idrs_len)) (aI (aI @lrows_length @tab.a2) (aI @tab.s2 @tab.u69)))
def rigpb1 :=
  (aI (aI (aI rigpc0 (aI rigpc1 @bwk_a)) (aI @eq_self.{1} (aI @forall_const.{1} @idrs_len))) (aI (aI @implies_true.{0} (aI @implies_true.{1} @lrows_length)) (aI @tab.a2 (aI @tab.s2 @tab.u69))))
def rigpb2 :=
  (aI (aI (aI rigpc0 (aI rigpc1 @Bool.true_and)) (aI @bwk_a (aI @eq_self.{1} @forall_const.{1}))) (aI (aI @idrs_len (aI @implies_true.{0} @implies_true.{1})) (aI (aI @lrows_length @tab.a2) (aI @tab.s2 @tab.u69))))
set_option maxHeartbeats 4000000 in
theorem numOk_calls (ns : List Int) (o : Bool) (hl : ns.length < 4611686018427387904) : SCall Try.prog 168 [.rsl 1 (lrows ns), .ptr 0 0 0] [okR o] fun r L => r = .ret (.tup []) ∧ L = [okR (o && allNN ns)] := by
  unfold okR
  refine SCall.mk (fn := Try.f168) (by kernel_rfl) rfl (Nat.le_of_ble_eq_true (by kernel_rfl)) ?_
  refine goC ?_
  simp -dsimp +decide (disch := first | omega | simp +decide only [bdset_a, lrows_length, lrows_flat, idrs_len]) only [rigpb0, ↓brun_b, envOf]
  refine Sem.loop (ι := {k : Nat // k ≤ ns.length}) (fun k => ⟨17, 1, [(1, .ptr 0 0 0), (5, .rsl 1 (lrows ns)), (6, .v (.int .i64 (ns.length : Int))), (7, .v (.int .i64 (k.1 : Int)))], [some (.row ⟨1, 1, true, 4, fun _ => [.v (.bool (o && allNN (ns.take k.1)))]⟩)]⟩) (fun k => ns.length - k.1) ⟨0, Nat.zero_le _⟩ [0] ?_ ?_
  · have h0 : (o && allNN (ns.take 0)) = o := by simp [allNN]
    (refine Wk.ofC ?_; simp -dsimp +decide (disch := first | omega | simp +decide only [bdset_a, lrows_length, lrows_flat, idrs_len]) only [rigpb1, ↓brun_b, Nat.reduceBEq, h0])
  · rintro ⟨k, hk⟩
    refine goC ?_
    simp -dsimp +decide (disch := first | omega | simp +decide only [bdset_a, lrows_length, lrows_flat, idrs_len]) only [rigpb0, ↓brun_b, Nat.reduceBEq]
    refine SCond.split (fun h => ?_) (fun h => ?_)
    · simp only [decide_eq_true_eq] at h
      have hk' : k < ns.length := by omega
      have hwk : IntKind.i64.wrap ((k : Int) + 1) = ((k + 1 : Nat) : Int) := by rw [wrap_i64 _ (by omega)]; rfl
      have hft : (o && allNN (ns.take (k + 1))) = ((o && allNN (ns.take k)) && decide (0 ≤ ns.getD k 0)) := by
        unfold allNN
        rw [all_take _ ns k hk', Bool.and_assoc]
      have hat := lrows_at ns k hk'
      generalize hO : (o && allNN (ns.take k)) = O at *
      cases O with
      | false =>
        simp -dsimp +decide (disch := first | omega | simp +decide only [bdset_a, lrows_length, lrows_flat, idrs_len]) only [rigpb0, ↓brun_b, Nat.reduceBEq, Nat.reduceLeDiff, hat, lrow, hwk]
        refine And.intro (by omega) ?_
        refine ⟨⟨k + 1, by omega⟩, [0], ?_, by show ns.length - (k + 1) < ns.length - k; omega⟩
        (refine Wk.ofC ?_; simp -dsimp +decide (disch := first | omega | simp +decide only [bdset_a, lrows_length, lrows_flat, idrs_len]) only [rigpb1, ↓brun_b, Nat.reduceBEq, hft])
      | true =>
        simp -dsimp +decide (disch := first | omega | simp +decide only [bdset_a, lrows_length, lrows_flat, idrs_len]) only [rigpb0, ↓brun_b, Nat.reduceBEq, Nat.reduceLeDiff, hat, lrow, hwk]
        refine And.intro (by omega) ?_
        refine ⟨⟨k + 1, by omega⟩, [0], ?_, by show ns.length - (k + 1) < ns.length - k; omega⟩
        (refine Wk.ofC ?_; simp -dsimp +decide (disch := first | omega | simp +decide only [bdset_a, lrows_length, lrows_flat, idrs_len]) only [rigpb2, ↓brun_b, Nat.reduceBEq, hft])
    · simp only [decide_eq_false_iff_not] at h
      obtain rfl : k = ns.length := by omega
      have hft : ns.take ns.length = ns := List.take_length
      simp -dsimp +decide (disch := first | omega | simp +decide only [bdset_a, lrows_length, lrows_flat, idrs_len]) only [rigpb0, reduceIte, hft]
      refine SQ.fin (SQ.runL (rs := []) [0] (.tup []) _ rfl (And.intro rfl rfl) (by decide) rfl rfl ?_ ?_)
      · simp -dsimp +decide (disch := first | omega | simp +decide only [bdset_a, lrows_length, lrows_flat, idrs_len]) only [rigpb1]
      · simp -dsimp +decide (disch := first | omega | simp +decide only [bdset_a, lrows_length, lrows_flat, idrs_len]) only [rigpb1, ↓brun_b]
        exact Ent.eq rfl
def rigpb3 :=
  (aI (aI rigpc0 (aI rigpc1 @idrs_len)) (aI (aI @lrows_length @tab.a145) (aI @tab.s145 @tab.u145)))
def rigpb4 :=
  (aI (aI (aI rigpc0 (aI rigpc1 @bwk_a)) (aI @eq_self.{1} (aI @forall_const.{1} @idrs_len))) (aI (aI @implies_true.{0} (aI @implies_true.{1} @lrows_length)) (aI @tab.a145 (aI @tab.s145 @tab.u145))))
def rigpb5 :=
  (aI (aI (aI rigpc0 (aI rigpc1 @Bool.true_and)) (aI @bwk_a (aI @eq_self.{1} @forall_const.{1}))) (aI (aI @idrs_len (aI @implies_true.{0} @implies_true.{1})) (aI (aI @lrows_length @tab.a145) (aI @tab.s145 @tab.u145))))
set_option maxHeartbeats 4000000 in
theorem trOk_calls (ns : List Int) (o : Bool) (hl : ns.length < 4611686018427387904) : SCall Try.prog 169 [.rsl 1 (lrows ns), .ptr 0 0 0] [okR o] fun r L => r = .ret (.tup []) ∧ L = [okR (o && trB ns)] := by
  unfold okR
  have hE : (o && trB ns) = ((o && decide (ns.length ≤ 64)) && allTr ns) := by unfold trB; rw [Bool.and_assoc]
  have hd : decide ((ns.length : Int) ≤ 64) = decide (ns.length ≤ 64) := by congr 1; exact propext (by omega)
  rw [hE]
  generalize hO2 : (o && decide (ns.length ≤ 64)) = o2
  refine SCall.mk (fn := Try.f169) (by kernel_rfl) rfl (Nat.le_of_ble_eq_true (by kernel_rfl)) ?_
  refine Sem.go (k := 1) ?_
  simp -dsimp +decide (disch := first | omega | simp +decide only [bdset_a, lrows_length, lrows_flat, idrs_len]) only [rigpb3, envOf]
  refine Sem.cutW [_] ⟨27, 1, [(0, .rsl 1 (lrows ns)), (1, .ptr 0 0 0)], [some (.row ⟨1, 1, true, 4, fun _ => [.v (.bool o2)]⟩)]⟩ ?_ ?_
  · refine goC ?_
    cases o with
    | false =>
      have h2 : o2 = false := by rw [← hO2]; rfl
      simp -dsimp +decide (disch := first | omega | simp +decide only [bdset_a, lrows_length, lrows_flat, idrs_len]) only [rigpb3, ↓brun_b, Nat.reduceBEq]
      refine ⟨[0], ?_⟩
      (refine Wk.ofC ?_; simp -dsimp +decide (disch := first | omega | simp +decide only [bdset_a, lrows_length, lrows_flat, idrs_len]) only [rigpb4, ↓brun_b, Nat.reduceBEq, h2])
    | true =>
      have h2 : decide ((ns.length : Int) ≤ 64) = o2 := by rw [← hO2, hd]; rfl
      simp -dsimp +decide (disch := first | omega | simp +decide only [bdset_a, lrows_length, lrows_flat, idrs_len]) only [rigpb3, ↓brun_b, Nat.reduceBEq, h2]
      refine ⟨[0], ?_⟩
      (refine Wk.ofC ?_; simp -dsimp +decide (disch := first | omega | simp +decide only [bdset_a, lrows_length, lrows_flat, idrs_len]) only [rigpb4, ↓brun_b, Nat.reduceBEq])
  · refine goC ?_
    simp -dsimp +decide (disch := first | omega | simp +decide only [bdset_a, lrows_length, lrows_flat, idrs_len]) only [rigpb3, ↓brun_b]
    refine Sem.loop (ι := {k : Nat // k ≤ ns.length}) (fun k => ⟨27, 1, [(1, .ptr 0 0 0), (11, .rsl 1 (lrows ns)), (12, .v (.int .i64 (ns.length : Int))), (13, .v (.int .i64 (k.1 : Int)))], [some (.row ⟨1, 1, true, 4, fun _ => [.v (.bool (o2 && allTr (ns.take k.1)))]⟩)]⟩) (fun k => ns.length - k.1) ⟨0, Nat.zero_le _⟩ [0] ?_ ?_
    · have h0 : (o2 && allTr (ns.take 0)) = o2 := by simp [allTr]
      (refine Wk.ofC ?_; simp -dsimp +decide (disch := first | omega | simp +decide only [bdset_a, lrows_length, lrows_flat, idrs_len]) only [rigpb4, ↓brun_b, Nat.reduceBEq, h0])
    · rintro ⟨k, hk⟩
      refine goC ?_
      simp -dsimp +decide (disch := first | omega | simp +decide only [bdset_a, lrows_length, lrows_flat, idrs_len]) only [rigpb3, ↓brun_b, Nat.reduceBEq]
      refine SCond.split (fun h => ?_) (fun h => ?_)
      · simp only [decide_eq_true_eq] at h
        have hk' : k < ns.length := by omega
        have hwk : IntKind.i64.wrap ((k : Int) + 1) = ((k + 1 : Nat) : Int) := by rw [wrap_i64 _ (by omega)]; rfl
        have hft : (o2 && allTr (ns.take (k + 1))) = ((o2 && allTr (ns.take k)) && (decide (0 ≤ ns.getD k 0) && decide (ns.getD k 0 < 6))) := by
          unfold allTr
          rw [all_take _ ns k hk', Bool.and_assoc]
        have hat : (lrows ns).getD k [] = [.v (.int .i64 (ns.getD k 0))] := lrows_at ns k hk'
        generalize hO : (o2 && allTr (ns.take k)) = O at *
        generalize ns.getD k 0 = x at *
        cases O with
        | false =>
          simp -dsimp +decide (disch := first | omega | simp +decide only [bdset_a, lrows_length, lrows_flat, idrs_len]) only [rigpb3, ↓brun_b, Nat.reduceBEq, Nat.reduceLeDiff, hat, hwk]
          refine And.intro (by omega) ?_
          refine ⟨⟨k + 1, by omega⟩, [0], ?_, by show ns.length - (k + 1) < ns.length - k; omega⟩
          (refine Wk.ofC ?_; simp -dsimp +decide (disch := first | omega | simp +decide only [bdset_a, lrows_length, lrows_flat, idrs_len]) only [rigpb4, ↓brun_b, Nat.reduceBEq, hft])
        | true =>
          cases hx : decide (0 ≤ x) with
          | false =>
            simp -dsimp +decide (disch := first | omega | simp +decide only [bdset_a, lrows_length, lrows_flat, idrs_len]) only [rigpb3, ↓brun_b, Nat.reduceBEq, Nat.reduceLeDiff, hat, hwk, hx]
            refine And.intro (by omega) ?_
            refine ⟨⟨k + 1, by omega⟩, [0], ?_, by show ns.length - (k + 1) < ns.length - k; omega⟩
            (refine Wk.ofC ?_; simp -dsimp +decide (disch := first | omega | simp +decide only [bdset_a, lrows_length, lrows_flat, idrs_len]) only [rigpb5, ↓brun_b, Nat.reduceBEq, hft, hx])
          | true =>
            simp -dsimp +decide (disch := first | omega | simp +decide only [bdset_a, lrows_length, lrows_flat, idrs_len]) only [rigpb3, ↓brun_b, Nat.reduceBEq, Nat.reduceLeDiff, hat, hwk, hx]
            refine And.intro (by omega) ?_
            refine ⟨⟨k + 1, by omega⟩, [0], ?_, by show ns.length - (k + 1) < ns.length - k; omega⟩
            (refine Wk.ofC ?_; simp -dsimp +decide (disch := first | omega | simp +decide only [bdset_a, lrows_length, lrows_flat, idrs_len]) only [rigpb5, ↓brun_b, Nat.reduceBEq, hft, hx])
      · simp only [decide_eq_false_iff_not] at h
        obtain rfl : k = ns.length := by omega
        have hft : ns.take ns.length = ns := List.take_length
        simp -dsimp +decide (disch := first | omega | simp +decide only [bdset_a, lrows_length, lrows_flat, idrs_len]) only [rigpb3, reduceIte, hft]
        refine SQ.fin (SQ.runL (rs := []) [0] (.tup []) _ rfl (And.intro rfl rfl) (by decide) rfl rfl ?_ ?_)
        · simp -dsimp +decide (disch := first | omega | simp +decide only [bdset_a, lrows_length, lrows_flat, idrs_len]) only [rigpb4]
        · simp -dsimp +decide (disch := first | omega | simp +decide only [bdset_a, lrows_length, lrows_flat, idrs_len]) only [rigpb4, ↓brun_b]
          exact Ent.eq rfl
end Go.Proofs
namespace Go.Proofs
open Go Go.SL
set_option maxRecDepth 100000
theorem al4 (N : Nat) : sAlloc Try.prog N 4 = some ⟨.ptr N 0 0, ⟨none, some (.row ⟨1, 1, true, 4, fun _ => [.v (.bool false)]⟩)⟩, True⟩ := sAlloc_eq N 4 _ tab.z4 rfl
def rightB (k : Nat) (F : Frm) : Bool :=
  match k with
  | 1 => allNN [F.fi, F.fn, F.ti, F.tn]
  | 2 => allNN [F.fi, F.fn, F.ti, F.tn, F.n] && decide (F.tx.length ≤ 4096)
  | 3 => allNN [F.fi, F.fn, F.ti, F.tn, F.n]
  | 4 => allNN [F.pn] && trB F.tr
  | 5 => allNN [F.pn]
  | 6 => allNN [F.pn]
  | 7 => allNN [F.pn] && decide (F.is.length ≤ 16)
  | 8 => allNN [F.pn] && trB F.tr && decide (0 ≤ F.op) && decide (F.op ≤ 3)
  | 9 => allNN [F.n]
  | 10 => allNN [F.n, F.vn] && decide (1 ≤ F.op) && decide (F.op ≤ 4) && decide (0 ≤ F.ttl) && decide (F.ttl ≤ 64) && decide (F.val.length ≤ 64) && decide (F.tx.length ≤ 64)
  | 11 => allNN [F.pn, F.vn] && decide (F.val.length ≤ 64)
  | 12 => allNN [F.pn, F.vn]
  | _ => false
theorem numOk1 (ns : List Int) (o : Bool) (h : allNN ns = o) (hl : ns.length < 4611686018427387904) : SCall Try.prog 168 [.rsl 1 (lrows ns), .ptr 0 0 0] [some (.row ⟨1, 1, true, 4, fun _ => [.v (.bool true)]⟩)] fun r L => r = .ret (.tup []) ∧ L = [some (.row ⟨1, 1, true, 4, fun _ => [.v (.bool o)]⟩)] := by
  have := numOk_calls ns true hl
  rw [Bool.true_and, h] at this
  exact this
theorem trOk1 (ns : List Int) (o o2 : Bool) (h : (o && trB ns) = o2) (hl : ns.length < 4611686018427387904) : SCall Try.prog 169 [.rsl 1 (lrows ns), .ptr 0 0 0] [some (.row ⟨1, 1, true, 4, fun _ => [.v (.bool o)]⟩)] fun r L => r = .ret (.tup []) ∧ L = [some (.row ⟨1, 1, true, 4, fun _ => [.v (.bool o2)]⟩)] := by
  have := trOk_calls ns o hl
  rw [h] at this
  exact this
def rigpc2 :=
  (aI (aI (aI @AD.c_length @AK.c_length) (aI @CP.c_length (aI @DR.c_length @GT.c_length))) (aI (aI @H1.c_length @PE.c_length) (aI @PK.c_length (aI @PT.c_length @SU.c_length))))
def rigpb6 :=
  (aI (aI (aI (aI rigpc2 @AD.one) (aI @AK.one (aI @CP.one @DR.one))) (aI (aI @GT.one @H1.one) (aI @PE.one (aI @PK.one @PT.one)))) (aI (aI (aI @SU.one @bdset_a) (aI @idrs_len (aI @lrows_flat @lrows_length))) (aI (aI @zD.eq_1 @zE.eq_1) (aI @zF.eq_1 (aI @zH.eq_1 @zK.eq_1)))))
def rigpc3 :=
  (aI (aI (aI (aI (aI (aI @AD.at_n @AD.set_all) (aI @AK.at_op @AK.at_pn)) (aI (aI @AK.at_tr @AK.set_all) (aI @CP.at_pn @CP.at_val))) (aI (aI (aI @CP.at_vn @CP.set_all) (aI @DR.at_pn @DR.set_all)) (aI (aI @GT.at_pn @GT.at_vn) (aI @GT.set_all @H1.at_fi)))) (aI (aI (aI (aI @H1.at_fn @H1.at_ti) (aI @H1.at_tn @H1.set_all)) (aI (aI @List.replicate_succ.{0} @List.replicate_zero.{0}) (aI @PE.at_is @PE.at_pn))) (aI (aI (aI @PE.set_all @PK.at_n) (aI @PK.at_op @PK.at_ttl)) (aI (aI @PK.at_tx @PK.at_val) (aI @PK.at_vn (aI @PK.set_all @PT.at_pn)))))) (aI (aI (aI (aI (aI @PT.set_all @SU.at_pn) (aI @SU.at_tr @SU.set_all)) (aI (aI @al210 @al214) (aI @al218 @al226))) (aI (aI (aI @al230 @al232) (aI @al235 @al237)) (aI (aI @al239 @al241) (aI @al244 @al246)))) (aI (aI (aI (aI @al4 @bs69_2) (aI @bs69_4 @bs69_5)) (aI (aI @hit210 @hit214) (aI @hit218 @hit226))) (aI (aI (aI @hit230 @hit232) (aI @hit235 @hit237)) (aI (aI @hit239 @hit241) (aI @hit244 (aI @hit246 @sop_assert)))))))
def rigpc4 :=
  (aI (aI (aI (aI (aI @tab.a35 (aI @tab.a79 @tab.f135x0)) (aI @tab.f135x1 (aI @tab.f144x1 @tab.f147x0))) (aI (aI @tab.f149x1 (aI @tab.f149x2 @tab.f210x0)) (aI (aI @tab.f210x1 @tab.f210x2) (aI @tab.f210x3 @tab.f214x0)))) (aI (aI (aI @tab.f214x1 (aI @tab.f218x0 @tab.f218x1)) (aI @tab.f218x2 (aI @tab.f226x0 @tab.f226x3))) (aI (aI @tab.f230x0 (aI @tab.f232x0 @tab.f235x0)) (aI (aI @tab.f235x2 @tab.f237x2) (aI @tab.f237x3 @tab.f237x5))))) (aI (aI (aI (aI @tab.f239x1 (aI @tab.f241x2 @tab.f241x3)) (aI @tab.f241x4 (aI @tab.f241x5 @tab.f241x6))) (aI (aI @tab.f244x0 (aI @tab.f244x2 @tab.f246x0)) (aI (aI @tab.f246x3 @tab.s210) (aI @tab.s214 @tab.s218)))) (aI (aI (aI @tab.s226 (aI @tab.s230 @tab.s232)) (aI @tab.s235 (aI @tab.s237 @tab.s239))) (aI (aI @tab.s241 (aI @tab.s244 @tab.s246)) (aI (aI @tab.s35 @tab.s79) (aI @tab.u35 @tab.u79))))))
def rigpb7 :=
  (aI (aI (aI rigpc3 (aI rigpc2 rigpc0)) (aI rigpc1 (aI rigpc4 @idrs_len))) (aI (aI @lrows_length (aI @tab.a145 @tab.a2)) (aI (aI @tab.s145 @tab.s2) (aI @tab.u145 @tab.u69))))
def rigpb8 :=
  (aI (aI (aI (aI rigpc3 rigpc2) (aI rigpc0 rigpc1)) (aI (aI rigpc4 @bwk_a) (aI @eq_self.{1} (aI @forall_const.{1} @idrs_len)))) (aI (aI (aI @implies_true.{0} @implies_true.{1}) (aI @lrows_length @tab.a145)) (aI (aI @tab.a2 @tab.s145) (aI @tab.s2 (aI @tab.u145 @tab.u69)))))
def rigpb9 :=
  (aI (aI (aI rigpc1 rigpc4) (aI @tab.a145 @tab.a2)) (aI (aI @tab.s145 @tab.s2) (aI @tab.u145 @tab.u69)))
set_option maxHeartbeats 4000000 in
theorem right_k1 (F : Frm) : Pure Try.prog 121 [.ifc 214 (.agg (H1.c ⟨.v (.int .i64 F.fi), .v (.int .i64 F.fn), .v (.int .i64 F.ti), .v (.int .i64 F.tn), F.a⟩))] (.v (.bool (rightB 1 F))) := by
  generalize hO : allNN [F.fi, F.fn, F.ti, F.tn] = O
  have c1 := numOk1 [F.fi, F.fn, F.ti, F.tn] O hO (by show 4 < 4611686018427387904; decide)
  refine SCall.mk (fn := Try.f121) (by kernel_rfl) rfl (Nat.le_of_ble_eq_true (by kernel_rfl)) ?_
  refine goC ?_
  simp -dsimp +decide (disch := first | omega | simp +decide only [rigpb6]) only [rigpb7, ↓brun_b, envOf, Nat.reduceAdd, Nat.reduceBEq, fun v => miss232 214 v (by decide)]
  refine SemOps.frz (d := 52) (lrows [F.fi, F.fn, F.ti, F.tn]) rfl rfl rfl (by omega) (fun i r h => ent_icells h) ?_
  refine SemOps.callwc [0] cal.f168 (c1) rfl rfl rfl (by simp -dsimp +decide (disch := first | omega | simp +decide only [rigpb6]) only [rigpb8, ↓brun_b, Nat.reduceAdd]) rfl (by simp -dsimp +decide (disch := first | omega | simp +decide only [rigpb6]) only [rigpb8, Nat.reduceAdd]) (dK rfl) ?_
  refine goK ?_
  simp -dsimp +decide (disch := first | omega | simp +decide only [rigpb6]) only [rigpb7, ↓brun_b, Nat.reduceAdd, Nat.reduceBEq]
  have hE : rightB 1 F = O := by simp only [rightB, hO]
  rw [hE]
  refine SQ.answer (rs := [.tmp 2]) rfl rfl ?_
  simp -dsimp +decide (disch := first | omega | simp +decide only [rigpb6]) only [rigpb8, ↓brun_b, Nat.reduceAdd, rho]
set_option maxHeartbeats 4000000 in
theorem right_k2 (F : Frm) : Pure Try.prog 121 [.ifc 210 (.agg ([.v (.int .i64 F.fi), .v (.int .i64 F.fn), .v (.int .i64 F.ti), .v (.int .i64 F.tn), .v (.int .i64 F.n), bsl F.tx]))] (.v (.bool (rightB 2 F))) := by
  generalize hO : allNN [F.fi, F.fn, F.ti, F.tn, F.n] = O
  have c1 := numOk1 [F.fi, F.fn, F.ti, F.tn, F.n] O hO (by show 5 < 4611686018427387904; decide)
  refine SCall.mk (fn := Try.f121) (by kernel_rfl) rfl (Nat.le_of_ble_eq_true (by kernel_rfl)) ?_
  refine goC ?_
  simp -dsimp +decide (disch := first | omega | simp +decide only [rigpb6]) only [rigpb7, ↓brun_b, envOf, Nat.reduceAdd, Nat.reduceBEq, fun v => miss232 210 v (by decide), fun v => miss214 210 v (by decide)]
  refine SemOps.frz (d := 72) (lrows [F.fi, F.fn, F.ti, F.tn, F.n]) rfl rfl rfl (by omega) (fun i r h => ent_icells h) ?_
  refine SemOps.callwc [0] cal.f168 (c1) rfl rfl rfl (by simp -dsimp +decide (disch := first | omega | simp +decide only [rigpb6]) only [rigpb8, ↓brun_b, Nat.reduceAdd]) rfl (by simp -dsimp +decide (disch := first | omega | simp +decide only [rigpb6]) only [rigpb8, Nat.reduceAdd]) (dK rfl) ?_
  refine goK ?_
  have e0 : decide ((F.tx.length : Int) ≤ 4096) = decide (F.tx.length ≤ 4096) := by congr 1; exact propext (by omega)
  cases O with
  | false =>
    simp -dsimp +decide (disch := first | omega | simp +decide only [rigpb6]) only [rigpb7, ↓brun_b, Nat.reduceAdd, Nat.reduceBEq]
    have hE : rightB 2 F = false := by simp only [rightB, hO, Bool.false_and]
    rw [hE]
    refine SQ.answer (rs := [.tmp 2]) rfl rfl ?_
    simp -dsimp +decide (disch := first | omega | simp +decide only [rigpb6]) only [rigpb8, ↓brun_b, Nat.reduceAdd, rho]
  | true =>
    simp -dsimp +decide (disch := first | omega | simp +decide only [rigpb6]) only [rigpb7, ↓brun_b, Nat.reduceAdd, Nat.reduceBEq, e0]
    have hE : rightB 2 F = decide (F.tx.length ≤ 4096) := by simp only [rightB, hO, Bool.true_and]
    rw [hE]
    refine SQ.answer (rs := [.tmp 2]) rfl rfl ?_
    simp -dsimp +decide (disch := first | omega | simp +decide only [rigpb6]) only [rigpb8, ↓brun_b, Nat.reduceAdd, rho]
set_option maxHeartbeats 4000000 in
theorem right_k3 (F : Frm) : Pure Try.prog 121 [.ifc 218 (.agg ([.v (.int .i64 F.fi), .v (.int .i64 F.fn), .v (.int .i64 F.ti), .v (.int .i64 F.tn), .v (.int .i64 F.n)]))] (.v (.bool (rightB 3 F))) := by
  generalize hO : allNN [F.fi, F.fn, F.ti, F.tn, F.n] = O
  have c1 := numOk1 [F.fi, F.fn, F.ti, F.tn, F.n] O hO (by show 5 < 4611686018427387904; decide)
  refine SCall.mk (fn := Try.f121) (by kernel_rfl) rfl (Nat.le_of_ble_eq_true (by kernel_rfl)) ?_
  refine goC ?_
  simp -dsimp +decide (disch := first | omega | simp +decide only [rigpb6]) only [rigpb7, ↓brun_b, envOf, Nat.reduceAdd, Nat.reduceBEq, fun v => miss232 218 v (by decide), fun v => miss214 218 v (by decide), fun v => miss210 218 v (by decide)]
  refine SemOps.frz (d := 99) (lrows [F.fi, F.fn, F.ti, F.tn, F.n]) rfl rfl rfl (by omega) (fun i r h => ent_icells h) ?_
  refine SemOps.callwc [0] cal.f168 (c1) rfl rfl rfl (by simp -dsimp +decide (disch := first | omega | simp +decide only [rigpb6]) only [rigpb8, ↓brun_b, Nat.reduceAdd]) rfl (by simp -dsimp +decide (disch := first | omega | simp +decide only [rigpb6]) only [rigpb8, Nat.reduceAdd]) (dK rfl) ?_
  refine goK ?_
  simp -dsimp +decide (disch := first | omega | simp +decide only [rigpb6]) only [rigpb7, ↓brun_b, Nat.reduceAdd, Nat.reduceBEq]
  have hE : rightB 3 F = O := by simp only [rightB, hO]
  rw [hE]
  refine SQ.answer (rs := [.tmp 2]) rfl rfl ?_
  simp -dsimp +decide (disch := first | omega | simp +decide only [rigpb6]) only [rigpb8, ↓brun_b, Nat.reduceAdd, rho]
set_option maxHeartbeats 4000000 in
theorem right_k4 (F : Frm) (hl : F.tr.length < 4611686018427387904) : Pure Try.prog 121 [.ifc 226 (.agg (SU.c ⟨F.who, .v (.int .i64 F.pn), F.a, F.b, .rsl 1 (lrows F.tr)⟩))] (.v (.bool (rightB 4 F))) := by
  generalize hO : allNN [F.pn] = O
  have c1 := numOk1 [F.pn] O hO (by show 1 < 4611686018427387904; decide)
  refine SCall.mk (fn := Try.f121) (by kernel_rfl) rfl (Nat.le_of_ble_eq_true (by kernel_rfl)) ?_
  refine goC ?_
  simp -dsimp +decide (disch := first | omega | simp +decide only [rigpb6]) only [rigpb7, ↓brun_b, envOf, Nat.reduceAdd, Nat.reduceBEq, fun v => miss232 226 v (by decide), fun v => miss214 226 v (by decide), fun v => miss210 226 v (by decide), fun v => miss218 226 v (by decide)]
  refine SemOps.frz (d := 108) (lrows [F.pn]) rfl rfl rfl (by omega) (fun i r h => ent_icells h) ?_
  refine SemOps.callwc [0] cal.f168 (c1) rfl rfl rfl (by simp -dsimp +decide (disch := first | omega | simp +decide only [rigpb6]) only [rigpb8, ↓brun_b, Nat.reduceAdd]) rfl (by simp -dsimp +decide (disch := first | omega | simp +decide only [rigpb6]) only [rigpb8, Nat.reduceAdd]) (dK rfl) ?_
  refine goK ?_
  simp -dsimp +decide (disch := first | omega | simp +decide only [rigpb6]) only [rigpb7, ↓brun_b, Nat.reduceAdd, Nat.reduceBEq]
  generalize hT : (O && trB F.tr) = T
  have c2 := trOk1 F.tr O T hT hl
  refine SemOps.callwc [0] cal.f169 (c2) rfl rfl rfl (by simp -dsimp +decide (disch := first | omega | simp +decide only [rigpb6]) only [rigpb8, ↓brun_b, Nat.reduceAdd]) rfl (by simp -dsimp +decide (disch := first | omega | simp +decide only [rigpb6]) only [rigpb8, Nat.reduceAdd]) (dK rfl) ?_
  refine goK ?_
  simp -dsimp +decide (disch := first | omega | simp +decide only [rigpb6]) only [rigpb7, ↓brun_b, Nat.reduceAdd, Nat.reduceBEq]
  have hE : rightB 4 F = T := by simp only [rightB, hO, hT]
  rw [hE]
  refine SQ.answer (rs := [.tmp 2]) rfl rfl ?_
  simp -dsimp +decide (disch := first | omega | simp +decide only [rigpb6]) only [rigpb8, ↓brun_b, Nat.reduceAdd, rho]
set_option maxHeartbeats 4000000 in
theorem right_k5 (F : Frm) : Pure Try.prog 121 [.ifc 230 (.agg (DR.c ⟨F.who, .v (.int .i64 F.pn)⟩))] (.v (.bool (rightB 5 F))) := by
  generalize hO : allNN [F.pn] = O
  have c1 := numOk1 [F.pn] O hO (by show 1 < 4611686018427387904; decide)
  refine SCall.mk (fn := Try.f121) (by kernel_rfl) rfl (Nat.le_of_ble_eq_true (by kernel_rfl)) ?_
  refine goC ?_
  simp -dsimp +decide (disch := first | omega | simp +decide only [rigpb6]) only [rigpb7, ↓brun_b, envOf, Nat.reduceAdd, Nat.reduceBEq, fun v => miss232 230 v (by decide), fun v => miss214 230 v (by decide), fun v => miss210 230 v (by decide), fun v => miss218 230 v (by decide), fun v => miss226 230 v (by decide)]
  refine SemOps.frz (d := 121) (lrows [F.pn]) rfl rfl rfl (by omega) (fun i r h => ent_icells h) ?_
  refine SemOps.callwc [0] cal.f168 (c1) rfl rfl rfl (by simp -dsimp +decide (disch := first | omega | simp +decide only [rigpb6]) only [rigpb8, ↓brun_b, Nat.reduceAdd]) rfl (by simp -dsimp +decide (disch := first | omega | simp +decide only [rigpb6]) only [rigpb8, Nat.reduceAdd]) (dK rfl) ?_
  refine goK ?_
  simp -dsimp +decide (disch := first | omega | simp +decide only [rigpb6]) only [rigpb7, ↓brun_b, Nat.reduceAdd, Nat.reduceBEq]
  have hE : rightB 5 F = O := by simp only [rightB, hO]
  rw [hE]
  refine SQ.answer (rs := [.tmp 2]) rfl rfl ?_
  simp -dsimp +decide (disch := first | omega | simp +decide only [rigpb6]) only [rigpb8, ↓brun_b, Nat.reduceAdd, rho]
set_option maxHeartbeats 4000000 in
theorem right_k6 (F : Frm) : Pure Try.prog 121 [.ifc 232 (.agg (PT.c ⟨F.who, .v (.int .i64 F.pn), .v (.bool F.toA)⟩))] (.v (.bool (rightB 6 F))) := by
  generalize hO : allNN [F.pn] = O
  have c1 := numOk1 [F.pn] O hO (by show 1 < 4611686018427387904; decide)
  refine SCall.mk (fn := Try.f121) (by kernel_rfl) rfl (Nat.le_of_ble_eq_true (by kernel_rfl)) ?_
  refine goC ?_
  simp -dsimp +decide (disch := first | omega | simp +decide only [rigpb6]) only [rigpb7, ↓brun_b, envOf, Nat.reduceAdd, Nat.reduceBEq]
  refine SemOps.frz (d := 32) (lrows [F.pn]) rfl rfl rfl (by omega) (fun i r h => ent_icells h) ?_
  refine SemOps.callwc [0] cal.f168 (c1) rfl rfl rfl (by simp -dsimp +decide (disch := first | omega | simp +decide only [rigpb6]) only [rigpb8, ↓brun_b, Nat.reduceAdd]) rfl (by simp -dsimp +decide (disch := first | omega | simp +decide only [rigpb6]) only [rigpb8, Nat.reduceAdd]) (dK rfl) ?_
  refine goK ?_
  simp -dsimp +decide (disch := first | omega | simp +decide only [rigpb6]) only [rigpb7, ↓brun_b, Nat.reduceAdd, Nat.reduceBEq]
  have hE : rightB 6 F = O := by simp only [rightB, hO]
  rw [hE]
  refine SQ.answer (rs := [.tmp 2]) rfl rfl ?_
  simp -dsimp +decide (disch := first | omega | simp +decide only [rigpb6]) only [rigpb8, ↓brun_b, Nat.reduceAdd, rho]
set_option maxHeartbeats 4000000 in
theorem right_k7 (F : Frm) : Pure Try.prog 121 [.ifc 235 (.agg (PE.c ⟨F.who, .v (.int .i64 F.pn), .v (.bool F.toA), .rsl 16 (idrs F.is)⟩))] (.v (.bool (rightB 7 F))) := by
  generalize hO : allNN [F.pn] = O
  have c1 := numOk1 [F.pn] O hO (by show 1 < 4611686018427387904; decide)
  refine SCall.mk (fn := Try.f121) (by kernel_rfl) rfl (Nat.le_of_ble_eq_true (by kernel_rfl)) ?_
  refine goC ?_
  simp -dsimp +decide (disch := first | omega | simp +decide only [rigpb6]) only [rigpb7, ↓brun_b, envOf, Nat.reduceAdd, Nat.reduceBEq, fun v => miss232 235 v (by decide), fun v => miss214 235 v (by decide), fun v => miss210 235 v (by decide), fun v => miss218 235 v (by decide), fun v => miss226 235 v (by decide), fun v => miss230 235 v (by decide)]
  refine SemOps.frz (d := 130) (lrows [F.pn]) rfl rfl rfl (by omega) (fun i r h => ent_icells h) ?_
  refine SemOps.callwc [0] cal.f168 (c1) rfl rfl rfl (by simp -dsimp +decide (disch := first | omega | simp +decide only [rigpb6]) only [rigpb8, ↓brun_b, Nat.reduceAdd]) rfl (by simp -dsimp +decide (disch := first | omega | simp +decide only [rigpb6]) only [rigpb8, Nat.reduceAdd]) (dK rfl) ?_
  refine goK ?_
  have e0 : decide ((F.is.length : Int) ≤ 16) = decide (F.is.length ≤ 16) := by congr 1; exact propext (by omega)
  cases O with
  | false =>
    simp -dsimp +decide (disch := first | omega | simp +decide only [rigpb6]) only [rigpb7, ↓brun_b, Nat.reduceAdd, Nat.reduceBEq]
    have hE : rightB 7 F = false := by simp only [rightB, hO, Bool.false_and]
    rw [hE]
    refine SQ.answer (rs := [.tmp 2]) rfl rfl ?_
    simp -dsimp +decide (disch := first | omega | simp +decide only [rigpb6]) only [rigpb8, ↓brun_b, Nat.reduceAdd, rho]
  | true =>
    simp -dsimp +decide (disch := first | omega | simp +decide only [rigpb6]) only [rigpb7, ↓brun_b, Nat.reduceAdd, Nat.reduceBEq, e0]
    have hE : rightB 7 F = decide (F.is.length ≤ 16) := by simp only [rightB, hO, Bool.true_and]
    rw [hE]
    refine SQ.answer (rs := [.tmp 2]) rfl rfl ?_
    simp -dsimp +decide (disch := first | omega | simp +decide only [rigpb6]) only [rigpb8, ↓brun_b, Nat.reduceAdd, rho]
set_option maxHeartbeats 4000000 in
theorem right_k8 (F : Frm) (hl : F.tr.length < 4611686018427387904) : Pure Try.prog 121 [.ifc 237 (.agg (AK.c ⟨F.a, F.b, .v (.int .i64 F.op), F.who, .v (.int .i64 F.pn), .v (.bool F.toA), .rsl 1 (lrows F.tr)⟩))] (.v (.bool (rightB 8 F))) := by
  generalize hO : allNN [F.pn] = O
  have c1 := numOk1 [F.pn] O hO (by show 1 < 4611686018427387904; decide)
  refine SCall.mk (fn := Try.f121) (by kernel_rfl) rfl (Nat.le_of_ble_eq_true (by kernel_rfl)) ?_
  refine goC ?_
  simp -dsimp +decide (disch := first | omega | simp +decide only [rigpb6]) only [rigpb7, ↓brun_b, envOf, Nat.reduceAdd, Nat.reduceBEq, fun v => miss232 237 v (by decide), fun v => miss214 237 v (by decide), fun v => miss210 237 v (by decide), fun v => miss218 237 v (by decide), fun v => miss226 237 v (by decide), fun v => miss230 237 v (by decide), fun v => miss235 237 v (by decide)]
  refine SemOps.frz (d := 146) (lrows [F.pn]) rfl rfl rfl (by omega) (fun i r h => ent_icells h) ?_
  refine SemOps.callwc [0] cal.f168 (c1) rfl rfl rfl (by simp -dsimp +decide (disch := first | omega | simp +decide only [rigpb6]) only [rigpb8, ↓brun_b, Nat.reduceAdd]) rfl (by simp -dsimp +decide (disch := first | omega | simp +decide only [rigpb6]) only [rigpb8, Nat.reduceAdd]) (dK rfl) ?_
  refine goK ?_
  simp -dsimp +decide (disch := first | omega | simp +decide only [rigpb6]) only [rigpb7, ↓brun_b, Nat.reduceAdd, Nat.reduceBEq]
  generalize hT : (O && trB F.tr) = T
  have c2 := trOk1 F.tr O T hT hl
  refine SemOps.callwc [0] cal.f169 (c2) rfl rfl rfl (by simp -dsimp +decide (disch := first | omega | simp +decide only [rigpb6]) only [rigpb8, ↓brun_b, Nat.reduceAdd]) rfl (by simp -dsimp +decide (disch := first | omega | simp +decide only [rigpb6]) only [rigpb8, Nat.reduceAdd]) (dK rfl) ?_
  refine goK ?_
  cases T with
  | false =>
    simp -dsimp +decide (disch := first | omega | simp +decide only [rigpb6]) only [rigpb7, ↓brun_b, Nat.reduceAdd, Nat.reduceBEq]
    have hE : rightB 8 F = false := by simp only [rightB, hO, hT, Bool.false_and]
    rw [hE]
    refine SQ.answer (rs := [.tmp 2]) rfl rfl ?_
    simp -dsimp +decide (disch := first | omega | simp +decide only [rigpb6]) only [rigpb8, ↓brun_b, Nat.reduceAdd, rho]
  | true =>
    cases h0 : decide (0 ≤ F.op) with
    | false =>
      simp -dsimp +decide (disch := first | omega | simp +decide only [rigpb6]) only [rigpb7, ↓brun_b, Nat.reduceAdd, Nat.reduceBEq, h0]
      have hE : rightB 8 F = false := by simp only [rightB, hO, hT, h0, Bool.false_and, Bool.true_and]
      rw [hE]
      refine SQ.answer (rs := [.tmp 2]) rfl rfl ?_
      simp -dsimp +decide (disch := first | omega | simp +decide only [rigpb6]) only [rigpb8, ↓brun_b, Nat.reduceAdd, rho]
    | true =>
      simp -dsimp +decide (disch := first | omega | simp +decide only [rigpb6]) only [rigpb7, ↓brun_b, Nat.reduceAdd, Nat.reduceBEq, h0]
      have hE : rightB 8 F = decide (F.op ≤ 3) := by simp only [rightB, hO, hT, h0, Bool.true_and, Bool.and_self]
      rw [hE]
      refine SQ.answer (rs := [.tmp 2]) rfl rfl ?_
      simp -dsimp +decide (disch := first | omega | simp +decide only [rigpb6]) only [rigpb8, ↓brun_b, Nat.reduceAdd, rho]
set_option maxHeartbeats 4000000 in
theorem right_k9 (F : Frm) : Pure Try.prog 121 [.ifc 239 (.agg (AD.c ⟨F.a, .v (.int .i64 F.n)⟩))] (.v (.bool (rightB 9 F))) := by
  generalize hO : allNN [F.n] = O
  have c1 := numOk1 [F.n] O hO (by show 1 < 4611686018427387904; decide)
  refine SCall.mk (fn := Try.f121) (by kernel_rfl) rfl (Nat.le_of_ble_eq_true (by kernel_rfl)) ?_
  refine goC ?_
  simp -dsimp +decide (disch := first | omega | simp +decide only [rigpb6]) only [rigpb7, ↓brun_b, envOf, Nat.reduceAdd, Nat.reduceBEq, fun v => miss232 239 v (by decide), fun v => miss214 239 v (by decide), fun v => miss210 239 v (by decide), fun v => miss218 239 v (by decide), fun v => miss226 239 v (by decide), fun v => miss230 239 v (by decide), fun v => miss235 239 v (by decide), fun v => miss237 239 v (by decide)]
  refine SemOps.frz (d := 169) (lrows [F.n]) rfl rfl rfl (by omega) (fun i r h => ent_icells h) ?_
  refine SemOps.callwc [0] cal.f168 (c1) rfl rfl rfl (by simp -dsimp +decide (disch := first | omega | simp +decide only [rigpb6]) only [rigpb8, ↓brun_b, Nat.reduceAdd]) rfl (by simp -dsimp +decide (disch := first | omega | simp +decide only [rigpb6]) only [rigpb8, Nat.reduceAdd]) (dK rfl) ?_
  refine goK ?_
  simp -dsimp +decide (disch := first | omega | simp +decide only [rigpb6]) only [rigpb7, ↓brun_b, Nat.reduceAdd, Nat.reduceBEq]
  have hE : rightB 9 F = O := by simp only [rightB, hO]
  rw [hE]
  refine SQ.answer (rs := [.tmp 2]) rfl rfl ?_
  simp -dsimp +decide (disch := first | omega | simp +decide only [rigpb6]) only [rigpb8, ↓brun_b, Nat.reduceAdd, rho]
set_option maxHeartbeats 4000000 in
theorem right_k10 (F : Frm) : Pure Try.prog 121 [.ifc 241 (.agg (PK.c ⟨F.a, F.b, .v (.int .i64 F.n), .v (.int .i64 F.op), .v (.int .i64 F.ttl), F.key, .v (.int .i64 F.vn), F.vwho, bsl F.val, bsl F.tx⟩))] (.v (.bool (rightB 10 F))) := by
  generalize hO : allNN [F.n, F.vn] = O
  have c1 := numOk1 [F.n, F.vn] O hO (by show 2 < 4611686018427387904; decide)
  refine SCall.mk (fn := Try.f121) (by kernel_rfl) rfl (Nat.le_of_ble_eq_true (by kernel_rfl)) ?_
  refine goC ?_
  simp -dsimp +decide (disch := first | omega | simp +decide only [rigpb6]) only [rigpb7, ↓brun_b, envOf, Nat.reduceAdd, Nat.reduceBEq, fun v => miss232 241 v (by decide), fun v => miss214 241 v (by decide), fun v => miss210 241 v (by decide), fun v => miss218 241 v (by decide), fun v => miss226 241 v (by decide), fun v => miss230 241 v (by decide), fun v => miss235 241 v (by decide), fun v => miss237 241 v (by decide), fun v => miss239 241 v (by decide)]
  refine SemOps.frz (d := 181) (lrows [F.n, F.vn]) rfl rfl rfl (by omega) (fun i r h => ent_icells h) ?_
  refine SemOps.callwc [0] cal.f168 (c1) rfl rfl rfl (by simp -dsimp +decide (disch := first | omega | simp +decide only [rigpb6]) only [rigpb8, ↓brun_b, Nat.reduceAdd]) rfl (by simp -dsimp +decide (disch := first | omega | simp +decide only [rigpb6]) only [rigpb8, Nat.reduceAdd]) (dK rfl) ?_
  refine goK ?_
  have e4 : decide ((F.val.length : Int) ≤ 64) = decide (F.val.length ≤ 64) := by congr 1; exact propext (by omega)
  have e5 : decide ((F.tx.length : Int) ≤ 64) = decide (F.tx.length ≤ 64) := by congr 1; exact propext (by omega)
  cases O with
  | false =>
    simp -dsimp +decide (disch := first | omega | simp +decide only [rigpb6]) only [rigpb7, ↓brun_b, Nat.reduceAdd, Nat.reduceBEq]
    have hE : rightB 10 F = false := by simp only [rightB, hO, Bool.false_and]
    rw [hE]
    refine SQ.answer (rs := [.tmp 2]) rfl rfl ?_
    simp -dsimp +decide (disch := first | omega | simp +decide only [rigpb6]) only [rigpb8, ↓brun_b, Nat.reduceAdd, rho]
  | true =>
    cases h0 : decide (1 ≤ F.op) with
    | false =>
      simp -dsimp +decide (disch := first | omega | simp +decide only [rigpb6]) only [rigpb7, ↓brun_b, Nat.reduceAdd, Nat.reduceBEq, h0]
      have hE : rightB 10 F = false := by simp only [rightB, hO, h0, Bool.false_and, Bool.true_and]
      rw [hE]
      refine SQ.answer (rs := [.tmp 2]) rfl rfl ?_
      simp -dsimp +decide (disch := first | omega | simp +decide only [rigpb6]) only [rigpb8, ↓brun_b, Nat.reduceAdd, rho]
    | true =>
      cases h1 : decide (F.op ≤ 4) with
      | false =>
        simp -dsimp +decide (disch := first | omega | simp +decide only [rigpb6]) only [rigpb7, ↓brun_b, Nat.reduceAdd, Nat.reduceBEq, h0, h1]
        have hE : rightB 10 F = false := by simp only [rightB, hO, h0, h1, Bool.false_and, Bool.true_and, Bool.and_self]
        rw [hE]
        refine SQ.answer (rs := [.tmp 2]) rfl rfl ?_
        simp -dsimp +decide (disch := first | omega | simp +decide only [rigpb6]) only [rigpb8, ↓brun_b, Nat.reduceAdd, rho]
      | true =>
        cases h2 : decide (0 ≤ F.ttl) with
        | false =>
          simp -dsimp +decide (disch := first | omega | simp +decide only [rigpb6]) only [rigpb7, ↓brun_b, Nat.reduceAdd, Nat.reduceBEq, h0, h1, h2]
          have hE : rightB 10 F = false := by simp only [rightB, hO, h0, h1, h2, Bool.false_and, Bool.true_and, Bool.and_self]
          rw [hE]
          refine SQ.answer (rs := [.tmp 2]) rfl rfl ?_
          simp -dsimp +decide (disch := first | omega | simp +decide only [rigpb6]) only [rigpb8, ↓brun_b, Nat.reduceAdd, rho]
        | true =>
          cases h3 : decide (F.ttl ≤ 64) with
          | false =>
            simp -dsimp +decide (disch := first | omega | simp +decide only [rigpb6]) only [rigpb7, ↓brun_b, Nat.reduceAdd, Nat.reduceBEq, h0, h1, h2, h3]
            have hE : rightB 10 F = false := by simp only [rightB, hO, h0, h1, h2, h3, Bool.false_and, Bool.true_and, Bool.and_self]
            rw [hE]
            refine SQ.answer (rs := [.tmp 2]) rfl rfl ?_
            simp -dsimp +decide (disch := first | omega | simp +decide only [rigpb6]) only [rigpb8, ↓brun_b, Nat.reduceAdd, rho]
          | true =>
            cases h4 : decide (F.val.length ≤ 64) with
            | false =>
              simp -dsimp +decide (disch := first | omega | simp +decide only [rigpb6]) only [rigpb7, ↓brun_b, Nat.reduceAdd, Nat.reduceBEq, e4, h0, h1, h2, h3, h4]
              have hE : rightB 10 F = false := by simp only [rightB, hO, h0, h1, h2, h3, h4, Bool.false_and, Bool.true_and, Bool.and_self]
              rw [hE]
              refine SQ.answer (rs := [.tmp 2]) rfl rfl ?_
              simp -dsimp +decide (disch := first | omega | simp +decide only [rigpb6]) only [rigpb8, ↓brun_b, Nat.reduceAdd, rho]
            | true =>
              simp -dsimp +decide (disch := first | omega | simp +decide only [rigpb6]) only [rigpb7, ↓brun_b, Nat.reduceAdd, Nat.reduceBEq, e4, e5, h0, h1, h2, h3, h4]
              have hE : rightB 10 F = decide (F.tx.length ≤ 64) := by simp only [rightB, hO, h0, h1, h2, h3, h4, Bool.true_and, Bool.and_self]
              rw [hE]
              refine SQ.answer (rs := [.tmp 2]) rfl rfl ?_
              simp -dsimp +decide (disch := first | omega | simp +decide only [rigpb6]) only [rigpb8, ↓brun_b, Nat.reduceAdd, rho]
set_option maxHeartbeats 4000000 in
theorem right_k11 (F : Frm) : Pure Try.prog 121 [.ifc 244 (.agg (CP.c ⟨F.who, .v (.int .i64 F.pn), .v (.bool F.toA), F.key, .v (.int .i64 F.vn), F.vwho, bsl F.val⟩))] (.v (.bool (rightB 11 F))) := by
  generalize hO : allNN [F.pn, F.vn] = O
  have c1 := numOk1 [F.pn, F.vn] O hO (by show 2 < 4611686018427387904; decide)
  refine SCall.mk (fn := Try.f121) (by kernel_rfl) rfl (Nat.le_of_ble_eq_true (by kernel_rfl)) ?_
  refine goC ?_
  simp -dsimp +decide (disch := first | omega | simp +decide only [rigpb6]) only [rigpb7, ↓brun_b, envOf, Nat.reduceAdd, Nat.reduceBEq, fun v => miss232 244 v (by decide), fun v => miss214 244 v (by decide), fun v => miss210 244 v (by decide), fun v => miss218 244 v (by decide), fun v => miss226 244 v (by decide), fun v => miss230 244 v (by decide), fun v => miss235 244 v (by decide), fun v => miss237 244 v (by decide), fun v => miss239 244 v (by decide), fun v => miss241 244 v (by decide)]
  refine SemOps.frz (d := 228) (lrows [F.pn, F.vn]) rfl rfl rfl (by omega) (fun i r h => ent_icells h) ?_
  refine SemOps.callwc [0] cal.f168 (c1) rfl rfl rfl (by simp -dsimp +decide (disch := first | omega | simp +decide only [rigpb6]) only [rigpb8, ↓brun_b, Nat.reduceAdd]) rfl (by simp -dsimp +decide (disch := first | omega | simp +decide only [rigpb6]) only [rigpb8, Nat.reduceAdd]) (dK rfl) ?_
  refine goK ?_
  have e0 : decide ((F.val.length : Int) ≤ 64) = decide (F.val.length ≤ 64) := by congr 1; exact propext (by omega)
  cases O with
  | false =>
    simp -dsimp +decide (disch := first | omega | simp +decide only [rigpb6]) only [rigpb7, ↓brun_b, Nat.reduceAdd, Nat.reduceBEq]
    have hE : rightB 11 F = false := by simp only [rightB, hO, Bool.false_and]
    rw [hE]
    refine SQ.answer (rs := [.tmp 2]) rfl rfl ?_
    simp -dsimp +decide (disch := first | omega | simp +decide only [rigpb6]) only [rigpb8, ↓brun_b, Nat.reduceAdd, rho]
  | true =>
    simp -dsimp +decide (disch := first | omega | simp +decide only [rigpb6]) only [rigpb7, ↓brun_b, Nat.reduceAdd, Nat.reduceBEq, e0]
    have hE : rightB 11 F = decide (F.val.length ≤ 64) := by simp only [rightB, hO, Bool.true_and]
    rw [hE]
    refine SQ.answer (rs := [.tmp 2]) rfl rfl ?_
    simp -dsimp +decide (disch := first | omega | simp +decide only [rigpb6]) only [rigpb8, ↓brun_b, Nat.reduceAdd, rho]
set_option maxHeartbeats 4000000 in
theorem right_k12 (F : Frm) : Pure Try.prog 121 [.ifc 246 (.agg (GT.c ⟨F.who, .v (.int .i64 F.pn), .v (.bool F.toA), F.key, .v (.int .i64 F.vn), F.vwho⟩))] (.v (.bool (rightB 12 F))) := by
  generalize hO : allNN [F.pn, F.vn] = O
  have c1 := numOk1 [F.pn, F.vn] O hO (by show 2 < 4611686018427387904; decide)
  refine SCall.mk (fn := Try.f121) (by kernel_rfl) rfl (Nat.le_of_ble_eq_true (by kernel_rfl)) ?_
  refine goC ?_
  simp -dsimp +decide (disch := first | omega | simp +decide only [rigpb6]) only [rigpb7, ↓brun_b, envOf, Nat.reduceAdd, Nat.reduceBEq, fun v => miss232 246 v (by decide), fun v => miss214 246 v (by decide), fun v => miss210 246 v (by decide), fun v => miss218 246 v (by decide), fun v => miss226 246 v (by decide), fun v => miss230 246 v (by decide), fun v => miss235 246 v (by decide), fun v => miss237 246 v (by decide), fun v => miss239 246 v (by decide), fun v => miss241 246 v (by decide), fun v => miss244 246 v (by decide)]
  refine SemOps.frz (d := 248) (lrows [F.pn, F.vn]) rfl rfl rfl (by omega) (fun i r h => ent_icells h) ?_
  refine SemOps.callwc [0] cal.f168 (c1) rfl rfl rfl (by simp -dsimp +decide (disch := first | omega | simp +decide only [rigpb6]) only [rigpb8, ↓brun_b, Nat.reduceAdd]) rfl (by simp -dsimp +decide (disch := first | omega | simp +decide only [rigpb6]) only [rigpb8, Nat.reduceAdd]) (dK rfl) ?_
  refine goK ?_
  simp -dsimp +decide (disch := first | omega | simp +decide only [rigpb6]) only [rigpb7, ↓brun_b, Nat.reduceAdd, Nat.reduceBEq]
  have hE : rightB 12 F = O := by simp only [rightB, hO]
  rw [hE]
  refine SQ.answer (rs := [.tmp 2]) rfl rfl ?_
  simp -dsimp +decide (disch := first | omega | simp +decide only [rigpb6]) only [rigpb8, ↓brun_b, Nat.reduceAdd, rho]
end Go.Proofs
