/- Contracts of functions that the laws reach, on abstract values, and what they need: no conditions but those that each theorem states. -/
import Derived.Test.YtheodenjjaoncaaEncQ
import Derived.Test.YtheodenjjaoncaaDecP2
set_option linter.unusedVariables false
set_option linter.unusedSimpArgs false
set_option linter.defProp false
namespace Go.SL
open Go
theorem sop_inv {P : Program} {N : Nat} {get : Nat → Option SK} {ev : Operand → SV} (r : Operand) (n : String) (args : Array Operand) (ts : Array TypeId) : sop P N get ev (.call ⟨.invoke r n, args, ts⟩) = none := rfl
end Go.SL
namespace Go.Proofs
open Go Go.SL
set_option maxRecDepth 100000
def fixpc0 :=
  (And.intro (And.intro @cells_int (And.intro @fieldPlaceOf_eq @sagg_some)) (And.intro @sfill1_some (And.intro @sfill_cons @sfill_nil)))
def fixpb0 :=
  (And.intro fixpc0 (And.intro @p144_b @tab.f144x1))
theorem b144o : sBuild Try.prog 144 [(1, .v (.int .i64 1))] = some ⟨.agg (I16.zero.c ++ [.v (.int .i64 1)]), {}, True⟩ := by
  have e : sBuild Try.prog 144 [(1, .v (.int .i64 1))] = sagg (sfill (fieldPlaceOf Try.prog 144) (I16.zero.c ++ [.v (.int .i64 0)]) [(1, .v (.int .i64 1))]) := by
    rw [sBuild_eq, tab.z144, tab.l144]; rfl
  rw [e]
  simp (disch := simp [I16.c_length]) only [fixpb0, Option.map_some]
theorem b151d : sBuild Try.prog 151 [(0, .v (.int .i64 5)), (1, .agg (I16.zero.c ++ [.v (.int .i64 1)]))] = some ⟨.agg (FC.c { zF with kind := .v (.int .i64 5), who := I16.zero, pn := .v (.int .i64 1) }), {}, True⟩ := b151k5 I16.zero 1
def fixpb1 :=
  (And.intro (And.intro fixpc0 @FC.set_kind) (And.intro @bl151 @tab.f151x0))
theorem b151e : sBuild Try.prog 151 [(0, .v (.int .i64 5))] = some ⟨.agg (FC.c { zF with kind := .v (.int .i64 5) }), {}, True⟩ := by
  simp (disch := simp [FC.c_length, I16.c_length, IC.c_length]) only [fixpb1, Option.map_some]
def dF : Frm := { kF 5 with who := I16.zero, pn := 1 }
def dB : List UInt8 := [1, 5, 0, 0, 0, 0, 0, 0, 0, 0, 0, 0, 0, 0, 0, 0, 0, 0, 1, 1]
theorem dF_wf : dF.wf := by
  constructor <;> first | (unfold I64; decide) | (intro m hm; cases hm) | (unfold reachBytes; decide)
theorem dF_ent {fz : Nat → Option SB} {ρ : Nat → Nat} : EntL fz ρ dF.fc.c (FC.c { zF with kind := .v (.int .i64 5), who := I16.zero, pn := .v (.int .i64 1) }) = True := eq_true (bare_ent5 dF)
theorem kF_ent {fz : Nat → Option SB} {ρ : Nat → Nat} : EntL fz ρ (kF 5).fc.c (FC.c { zF with kind := .v (.int .i64 5) }) = True := eq_true (by
  unfold kF zFrm Frm.fc zF
  rw [FC.ent]
  (repeat' apply And.intro) <;> first | exact Ent.self (flat_v _) | exact ent_nil _)
theorem bytes_tell5 {f : FuncId} {args : List SV} {b : List UInt8} {e : Value} (h : SCall Try.prog f args [] fun r L => r = .ret (.tup [.slc 0 0 b.length, .v e]) ∧ L = [bytR b]) : Pure Try.prog f args (.tup [bsl b, .v e]) := by
  refine SCall.tell [] h ⟨rfl, rfl, rfl, rfl, rfl, rfl, ⟨⟨_, rfl, _, _, rfl, ?_, _, _, rfl, rfl, rfl⟩, trivial⟩, trivial⟩
  exact Ent_row rfl rfl (brows_length b).symm (by omega) fun i r hr => by
    obtain ⟨h1, rfl⟩ := brows_get hr
    rw [Nat.zero_add]
    exact EntL.self rfl
theorem enc_d : Pure Try.prog 114 [.agg dF.fc.c] (.tup [bsl dB, .v (.int .i64 0)]) := by
  have h := bytes_tell5 (enc_5 dF dF_wf rfl (by decide) (by decide))
  rw [show bytesB dF = dB by decide] at h
  exact h
theorem frmF_flat (F : Frm) : SV.flatL F.fc.c = true := by unfold Frm.fc; exact frm_flat ..
theorem dr_tell (b : List UInt8) (F : Frm) (e : Int) (hd : decode b = (F, e)) (h : SCall Try.prog 117 [bsl b] [] (DR b)) : Pure Try.prog 117 [bsl b] (.tup [.agg F.fc.c, .v (.int .i64 e)]) := by
  have h' : SCall Try.prog 117 [bsl b] [] fun r M => r = .ret (.tup [.agg F.fc.c, .v (.int .i64 e)]) ∧ M = [none, none] := h.mono fun r L hR => by
    unfold DR at hR
    rw [hd] at hR
    exact hR
  refine SCall.tell [] h' ⟨rfl, rfl, rfl, rfl, rfl, rfl, ⟨Ent.self ?_, trivial⟩, trivial⟩
  simp only [flat_tup, flatL_cons, flatL_nil, flat_agg, frmF_flat, flat_v, Bool.and_self]
theorem dec_a : decode [1, 13] = (zFrm, 2) := by kernel_rfl
theorem dec_b : decode [] = (zFrm, 3) := by kernel_rfl
theorem dec_c : decode (dB ++ [0]) = (zFrm, 4) := by kernel_rfl
theorem bs35_d (N : Nat) : sBuildSlice Try.prog N 35 2 [(0, .v (.int .u8 1)), (1, .v (.int .u8 13))] = some ⟨.slc N 0 2, ⟨none, some (.row ⟨1, 2, true, 5, fun e => ((bcells [1, 13]).drop (e * 1)).take 1⟩)⟩, True⟩ := by kernel_rfl
theorem bs35_z (N : Nat) : sBuildSlice Try.prog N 35 1 [(0, .v (.int .u8 0))] = some ⟨.slc N 0 1, ⟨none, some (.row ⟨1, 1, true, 5, fun e => ((bcells [0]).drop (e * 1)).take 1⟩)⟩, True⟩ := by kernel_rfl
theorem fix_row {fz : Nat → Option SB} {ρ : Nat → Nat} {i : Nat} {r : List SV} (h : (brows (dB ++ [0]))[i]? = some r) : EntL fz ρ r (if 0 + i < dB.length then if 0 + i < 0 then List.take 1 (List.drop (0 + i) []) else (brows dB).getD (0 + i - 0) [] else List.take 1 (List.drop (0 + i - dB.length) (bcells [0]))) := by
  obtain ⟨h1, rfl⟩ := brows_get h
  have hl : dB.length = 20 := rfl
  rw [List.length_append, hl] at h1
  have h2 : i < 21 := h1
  rw [Nat.zero_add, Nat.sub_zero, if_neg (Nat.not_lt_zero i), hl]
  by_cases hi : i < 20
  · rw [if_pos hi, brows_at dB i (by rw [hl]; exact hi), ← brow_app2 dB [0] i (by rw [hl]; omega), if_pos (by rw [hl]; exact hi)]
    exact EntL.self rfl
  · obtain rfl : i = 20 := by omega
    exact EntL.self rfl
theorem dB_1 : (brows dB).getD 1 [] = [.v (.int .u8 5)] := rfl
theorem dB_18 : (brows dB).getD 18 [] = [.v (.int .u8 1)] := rfl
theorem dB_len : dB.length = 20 := rfl
def fixpc1 :=
  (And.intro (And.intro (And.intro @AD.c_length (And.intro @AK.c_length @CP.c_length)) (And.intro (And.intro @DR.c_length @EC.c_length) (And.intro @FC.c_length @GT.c_length))) (And.intro (And.intro (And.intro @H1.c_length @I16.c_length) (And.intro @IC.c_length @PE.c_length)) (And.intro (And.intro @PK.c_length @PT.c_length) (And.intro @SU.c_length @brow_len))))
def fixpc2 :=
  (And.intro (And.intro (And.intro (And.intro @AD.flat @AK.flat) (And.intro @CP.flat (And.intro @DR.flat @EC.flat))) (And.intro (And.intro @GT.flat @H1.flat) (And.intro @I16.flat (And.intro @IC.flat @PE.flat)))) (And.intro (And.intro (And.intro @PK.flat @PT.flat) (And.intro @SU.flat (And.intro @brow_flat @bsl_flat))) (And.intro (And.intro @frmF_flat (And.intro @frm_flat @idrs_flat)) (And.intro @isl_flat (And.intro @lrows_flat @lsl_flat)))))
def fixpb2 :=
  (And.intro (And.intro (And.intro (And.intro fixpc1 (And.intro fixpc2 @AD.one)) (And.intro @AK.one (And.intro @CP.one @DR.one))) (And.intro (And.intro @EC.one (And.intro @FC.flat_eq @FC.one_eq)) (And.intro (And.intro @GT.one @H1.one) (And.intro @I16.one @IC.one)))) (And.intro (And.intro (And.intro @PE.one (And.intro @PK.one @PT.one)) (And.intro @SU.one (And.intro @bdset_a @idrs_len))) (And.intro (And.intro @lrow_len (And.intro @lrows_length @zD.eq_1)) (And.intro (And.intro @zE.eq_1 @zF.eq_1) (And.intro @zH.eq_1 @zK.eq_1)))))
def fixpc3 :=
  (And.intro (And.intro (And.intro (And.intro (And.intro (And.intro (And.intro @AD.at_n @AD.part) (And.intro @AD.part_a @AD.set_all)) (And.intro (And.intro @AK.at_op @AK.at_pn) (And.intro @AK.at_toA @AK.at_tr))) (And.intro (And.intro (And.intro @AK.part @AK.part_P) (And.intro @AK.part_a @AK.part_b)) (And.intro (And.intro @AK.set_all @CP.at_pn) (And.intro @CP.at_toA @CP.at_val)))) (And.intro (And.intro (And.intro (And.intro @CP.part @CP.part_P) (And.intro @CP.part_it @CP.part_key)) (And.intro (And.intro @CP.set_all @DR.at_pn) (And.intro @DR.part_P @DR.set_all))) (And.intro (And.intro (And.intro @EC.at_op @EC.at_pn) (And.intro @EC.ent @EC.part)) (And.intro (And.intro @EC.set_all @EC.set_op) (And.intro @FC.at_is @FC.at_kind))))) (And.intro (And.intro (And.intro (And.intro (And.intro @FC.at_n @FC.at_op) (And.intro @FC.at_pn @FC.at_toA)) (And.intro (And.intro @FC.at_tr @FC.at_ttl) (And.intro @FC.at_tx @FC.at_val))) (And.intro (And.intro (And.intro @FC.ent @FC.part) (And.intro @FC.part_P @FC.part_a)) (And.intro (And.intro @FC.part_b @FC.part_from) (And.intro @FC.part_it @FC.part_key)))) (And.intro (And.intro (And.intro (And.intro @FC.part_to @FC.part_ver) (And.intro @FC.set_all @GT.at_pn)) (And.intro (And.intro @GT.at_toA @GT.part) (And.intro @GT.part_P @GT.part_key))) (And.intro (And.intro (And.intro @GT.part_ver @GT.set_all) (And.intro @H1.part @H1.part_a)) (And.intro (And.intro @H1.part_from @H1.part_to) (And.intro @H1.set_all @I16.part)))))) (And.intro (And.intro (And.intro (And.intro (And.intro (And.intro @IC.at_val @IC.part_key) (And.intro @IC.part_ver @Int.cast_ofNat_Int)) (And.intro (And.intro @List.replicate_succ.{0} @List.replicate_zero.{0}) (And.intro @PE.at_is @PE.at_pn))) (And.intro (And.intro (And.intro @PE.at_toA @PE.part) (And.intro @PE.part_P @PE.set_all)) (And.intro (And.intro @PK.at_n @PK.at_op) (And.intro @PK.at_ttl @PK.at_tx)))) (And.intro (And.intro (And.intro (And.intro @PK.at_val @PK.part) (And.intro @PK.part_a @PK.part_b)) (And.intro (And.intro @PK.part_it @PK.part_key) (And.intro @PK.set_all @PT.at_pn))) (And.intro (And.intro (And.intro @PT.at_toA @PT.part) (And.intro @PT.part_P @PT.set_all)) (And.intro (And.intro @SKren_row @SU.at_pn) (And.intro @SU.at_tr @SU.part))))) (And.intro (And.intro (And.intro (And.intro (And.intro @SU.part_P @SU.part_a) (And.intro @SU.part_b @SU.set_all)) (And.intro (And.intro @after_mk @al149) (And.intro @al151 @al230))) (And.intro (And.intro (And.intro @al232 @al4) (And.intro @b144o @b151d)) (And.intro (And.intro @b151e @brow_cell) (And.intro @build151z @build214)))) (And.intro (And.intro (And.intro (And.intro @cellAt_succ @cellAt_zero) (And.intro @hit230 @mergeL_done)) (And.intro (And.intro @mergeL_own @mergeL_row) (And.intro @mk210 @mk214))) (And.intro (And.intro (And.intro @mk218 @renL_cons) (And.intro @renL_flat @renL_nil)) (And.intro (And.intro @ren_tup @sop_assert) (And.intro @splice_0 (And.intro @splice_c @splice_s))))))))
def fixpc4 :=
  (And.intro (And.intro (And.intro (And.intro (And.intro @beq_self_eq_true.{0} (And.intro @brun_a @cond_false.{1})) (And.intro (And.intro @cond_true.{1} @tab.a135) (And.intro @tab.a144 @tab.a145))) (And.intro (And.intro (And.intro @tab.a147 @tab.a149) (And.intro @tab.a151 @tab.a2)) (And.intro (And.intro @tab.a23 @tab.a3) (And.intro @tab.a35 @tab.a37)))) (And.intro (And.intro (And.intro (And.intro @tab.a4 @tab.a5) (And.intro @tab.a79 @tab.f144x0)) (And.intro (And.intro @tab.f149x0 @tab.f149x1) (And.intro @tab.f149x2 @tab.f151x1))) (And.intro (And.intro (And.intro @tab.f151x10 @tab.f151x11) (And.intro @tab.f151x12 @tab.f151x13)) (And.intro (And.intro @tab.f151x2 @tab.f151x3) (And.intro @tab.f151x4 @tab.f151x5))))) (And.intro (And.intro (And.intro (And.intro @tab.f151x6 (And.intro @tab.f151x7 @tab.f151x8)) (And.intro (And.intro @tab.f151x9 @tab.s135) (And.intro @tab.s144 @tab.s145))) (And.intro (And.intro (And.intro @tab.s147 @tab.s149) (And.intro @tab.s151 @tab.s2)) (And.intro (And.intro @tab.s23 @tab.s3) (And.intro @tab.s35 @tab.s37)))) (And.intro (And.intro (And.intro (And.intro @tab.s4 @tab.s5) (And.intro @tab.s79 @tab.u135)) (And.intro (And.intro @tab.u144 @tab.u145) (And.intro @tab.u147 @tab.u181))) (And.intro (And.intro (And.intro @tab.u2 @tab.u23) (And.intro @tab.u3 @tab.u35)) (And.intro (And.intro @tab.u37 @tab.u4) (And.intro @tab.u5 @tab.u79))))))
def fixpb3 :=
  (And.intro (And.intro fixpc3 fixpc1) (And.intro fixpc4 (And.intro @tab.f144x1 @tab.f151x0)))
def fixpb4 :=
  (And.intro (And.intro (And.intro fixpc3 fixpc1) (And.intro fixpc4 (And.intro @bwk_a @dF_ent))) (And.intro (And.intro @eq_self.{1} (And.intro @forall_const.{1} @implies_true.{0})) (And.intro @implies_true.{1} (And.intro @tab.f144x1 @tab.f151x0))))
def fixpb5 :=
  (And.intro fixpc4 (And.intro @tab.f144x1 @tab.f151x0))
def fixpb6 :=
  (And.intro (And.intro fixpc3 (And.intro fixpc1 fixpc4)) (And.intro @bs35_d (And.intro @tab.f144x1 @tab.f151x0)))
def fixpb8 :=
  (And.intro (And.intro (And.intro fixpc3 fixpc1) (And.intro fixpc4 (And.intro @brows_nil @bwk_a))) (And.intro (And.intro @eq_self.{1} (And.intro @forall_const.{1} @implies_true.{0})) (And.intro @implies_true.{1} (And.intro @tab.f144x1 @tab.f151x0))))
def fixpb9 :=
  (And.intro (And.intro fixpc3 (And.intro fixpc1 fixpc4)) (And.intro (And.intro @bs35_0 @bs35_z) (And.intro @tab.f144x1 @tab.f151x0)))
def fixpb10 :=
  (And.intro (And.intro (And.intro fixpc3 fixpc1) (And.intro fixpc4 (And.intro @bwk_a @eq_self.{1}))) (And.intro (And.intro @forall_const.{1} (And.intro @implies_true.{0} @implies_true.{1})) (And.intro @kF_ent (And.intro @tab.f144x1 @tab.f151x0))))
def fixpb11 :=
  (And.intro (And.intro (And.intro fixpc3 fixpc1) (And.intro fixpc4 @dB_1)) (And.intro (And.intro @dB_18 @dB_len) (And.intro @sop_inv (And.intro @tab.f144x1 @tab.f151x0))))
def fixpb12 :=
  (And.intro (And.intro (And.intro fixpc3 fixpc1) (And.intro fixpc4 (And.intro @bwk_a @eq_self.{1}))) (And.intro (And.intro @forall_const.{1} @implies_true.{0}) (And.intro @implies_true.{1} (And.intro @tab.f144x1 @tab.f151x0))))
set_option maxHeartbeats 8000000 in
theorem fixed4_calls : Pure Try.prog 116 [] (.v (.bool true)) := by
  have cE := enc_d
  have cA := dr_tell [1, 13] zFrm 2 dec_a (dec_un [1, 13] (by decide) 13 2 (by kernel_rfl) (by decide))
  have cB := dr_tell [] zFrm 3 dec_b (dec_bad [] (by decide) 3 (by kernel_rfl))
  have cC := dr_tell (dB ++ [0]) zFrm 4 dec_c (dec_5 (dB ++ [0]) (by decide) 2 (by kernel_rfl))
  have cO := of_k5 (kF 5) rfl
  refine SCall.mk (fn := Try.f116) (by kernel_rfl) rfl (Nat.le_of_ble_eq_true (by kernel_rfl)) ?_
  refine Sem.go (k := 1000) ?_
  simp -dsimp (decide := true) (maxSteps := 1000000) (disch := first | omega | simp (decide := true) only [fixpb2]) only [fixpb3, ↓brun_b, envOf, reduceIte, Nat.reduceEqDiff, Nat.reduceAdd, Nat.reduceSub, Nat.reduceMul, Nat.reduceBEq, Nat.reduceLeDiff, Nat.reduceLT, Int.reduceToNat, rho]
  refine SemOps.callw [] cal.f114 (cE) rfl rfl rfl (by simp -dsimp (decide := true) (maxSteps := 1000000) (disch := first | omega | simp (decide := true) only [fixpb2]) only [fixpb4, ↓brun_b, envOf, reduceIte, Nat.reduceEqDiff, Nat.reduceAdd, Nat.reduceSub, Nat.reduceMul, Nat.reduceBEq, Nat.reduceLeDiff, Nat.reduceLT, Int.reduceToNat, rho, frz1, ↓reduceIte]) rfl (by simp -dsimp (decide := true) (maxSteps := 1000000) (disch := first | omega | simp (decide := true) only [fixpb2]) only [fixpb4, ↓brun_b, envOf, reduceIte, Nat.reduceEqDiff, Nat.reduceAdd, Nat.reduceSub, Nat.reduceMul, Nat.reduceBEq, Nat.reduceLeDiff, Nat.reduceLT, Int.reduceToNat, rho, frz1, ↓reduceIte]) (by simp -dsimp (decide := true) (maxSteps := 1000000) (disch := first | omega | simp (decide := true) only [fixpb2]) only [fixpb5, ↓brun_b, envOf, reduceIte, Nat.reduceEqDiff, Nat.reduceAdd, Nat.reduceSub, Nat.reduceMul, Nat.reduceBEq, Nat.reduceLeDiff, Nat.reduceLT, Int.reduceToNat]) ?_
  refine SemOps.go (k := 1000) ?_
  simp -dsimp (decide := true) (maxSteps := 1000000) (disch := first | omega | simp (decide := true) only [fixpb2]) only [fixpb6, ↓brun_b, envOf, reduceIte, Nat.reduceEqDiff, Nat.reduceAdd, Nat.reduceSub, Nat.reduceMul, Nat.reduceBEq, Nat.reduceLeDiff, Nat.reduceLT, Int.reduceToNat, rho]
  refine SemOps.frz (d := 18) (brows [1, 13]) rfl rfl rfl (by omega) (fun i r h => ent_bcells h) ?_
  refine SemOps.callq (k := 1000) cal.f117 (cA) rfl rfl rfl rfl (by simp only [bflat_a, fixpc2]) (by simp only [bflat_a, fixpc2]) (by simp -dsimp (decide := true) (maxSteps := 1000000) (disch := first | omega | simp (decide := true) only [fixpb2]) only [fixpb5, ↓brun_b, envOf, reduceIte, Nat.reduceEqDiff, Nat.reduceAdd, Nat.reduceSub, Nat.reduceMul, Nat.reduceBEq, Nat.reduceLeDiff, Nat.reduceLT, Int.reduceToNat]) ?_
  simp -dsimp (decide := true) (maxSteps := 1000000) (disch := first | omega | simp (decide := true) only [fixpb2]) only [fixpb3, ↓brun_b, envOf, reduceIte, Nat.reduceEqDiff, Nat.reduceAdd, Nat.reduceSub, Nat.reduceMul, Nat.reduceBEq, Nat.reduceLeDiff, Nat.reduceLT, Int.reduceToNat, rho]
  refine SemOps.callw [] cal.f117 (cB) rfl rfl rfl (by simp -dsimp (decide := true) (maxSteps := 1000000) (disch := first | omega | simp (decide := true) only [fixpb2]) only [fixpb8, ↓brun_b, envOf, reduceIte, Nat.reduceEqDiff, Nat.reduceAdd, Nat.reduceSub, Nat.reduceMul, Nat.reduceBEq, Nat.reduceLeDiff, Nat.reduceLT, Int.reduceToNat, rho, bsl, frz1, ↓reduceIte]) rfl (by simp -dsimp (decide := true) (maxSteps := 1000000) (disch := first | omega | simp (decide := true) only [fixpb2]) only [fixpb8, ↓brun_b, envOf, reduceIte, Nat.reduceEqDiff, Nat.reduceAdd, Nat.reduceSub, Nat.reduceMul, Nat.reduceBEq, Nat.reduceLeDiff, Nat.reduceLT, Int.reduceToNat, rho, bsl, frz1, ↓reduceIte]) (by simp -dsimp (decide := true) (maxSteps := 1000000) (disch := first | omega | simp (decide := true) only [fixpb2]) only [fixpb5, ↓brun_b, envOf, reduceIte, Nat.reduceEqDiff, Nat.reduceAdd, Nat.reduceSub, Nat.reduceMul, Nat.reduceBEq, Nat.reduceLeDiff, Nat.reduceLT, Int.reduceToNat]) ?_
  refine SemOps.go (k := 1000) ?_
  simp -dsimp (decide := true) (maxSteps := 1000000) (disch := first | omega | simp (decide := true) only [fixpb2]) only [fixpb9, ↓brun_b, envOf, reduceIte, Nat.reduceEqDiff, Nat.reduceAdd, Nat.reduceSub, Nat.reduceMul, Nat.reduceBEq, Nat.reduceLeDiff, Nat.reduceLT, Int.reduceToNat, rho, sapp1_sl el5]
  refine SemOps.frz (d := 31) (brows (dB ++ [0])) rfl rfl rfl (by omega) (fun i r h => fix_row h) ?_
  refine SemOps.callq (k := 1000) cal.f117 (cC) rfl rfl rfl rfl (by simp only [bflat_a, fixpc2]) (by simp only [bflat_a, fixpc2]) (by simp -dsimp (decide := true) (maxSteps := 1000000) (disch := first | omega | simp (decide := true) only [fixpb2]) only [fixpb5, ↓brun_b, envOf, reduceIte, Nat.reduceEqDiff, Nat.reduceAdd, Nat.reduceSub, Nat.reduceMul, Nat.reduceBEq, Nat.reduceLeDiff, Nat.reduceLT, Int.reduceToNat]) ?_
  simp -dsimp (decide := true) (maxSteps := 1000000) (disch := first | omega | simp (decide := true) only [fixpb2]) only [fixpb3, ↓brun_b, envOf, reduceIte, Nat.reduceEqDiff, Nat.reduceAdd, Nat.reduceSub, Nat.reduceMul, Nat.reduceBEq, Nat.reduceLeDiff, Nat.reduceLT, Int.reduceToNat, rho]
  refine SemOps.callw [] cal.f119 (cO) rfl rfl rfl (by simp -dsimp (decide := true) (maxSteps := 1000000) (disch := first | omega | simp (decide := true) only [fixpb2]) only [fixpb10, ↓brun_b, envOf, reduceIte, Nat.reduceEqDiff, Nat.reduceAdd, Nat.reduceSub, Nat.reduceMul, Nat.reduceBEq, Nat.reduceLeDiff, Nat.reduceLT, Int.reduceToNat, rho, frz1, ↓reduceIte]) rfl (by simp -dsimp (decide := true) (maxSteps := 1000000) (disch := first | omega | simp (decide := true) only [fixpb2]) only [fixpb10, ↓brun_b, envOf, reduceIte, Nat.reduceEqDiff, Nat.reduceAdd, Nat.reduceSub, Nat.reduceMul, Nat.reduceBEq, Nat.reduceLeDiff, Nat.reduceLT, Int.reduceToNat, rho, frz1, ↓reduceIte]) (by simp -dsimp (decide := true) (maxSteps := 1000000) (disch := first | omega | simp (decide := true) only [fixpb2]) only [fixpb5, ↓brun_b, envOf, reduceIte, Nat.reduceEqDiff, Nat.reduceAdd, Nat.reduceSub, Nat.reduceMul, Nat.reduceBEq, Nat.reduceLeDiff, Nat.reduceLT, Int.reduceToNat]) ?_
  refine SemOps.go (k := 1000) ?_
  simp -dsimp (decide := true) (maxSteps := 1000000) (disch := first | omega | simp (decide := true) only [fixpb2]) only [fixpb11, ↓brun_b, envOf, reduceIte, Nat.reduceEqDiff, Nat.reduceAdd, Nat.reduceSub, Nat.reduceMul, Nat.reduceBEq, Nat.reduceLeDiff, Nat.reduceLT, Int.reduceToNat, rho]
  refine SemOps.callI rfl rfl rfl meth230 cal.f194 (kind_k5 (kF 5)) (bodyF_5 (kF 5)) rfl (by simp -dsimp (decide := true) (maxSteps := 1000000) (disch := first | omega | simp (decide := true) only [fixpb2]) only [fixpb3, ↓brun_b, envOf, reduceIte, Nat.reduceEqDiff, Nat.reduceAdd, Nat.reduceSub, Nat.reduceMul, Nat.reduceBEq, Nat.reduceLeDiff, Nat.reduceLT, Int.reduceToNat, rho]) ?_
  refine SemOps.go (k := 1000) ?_
  simp -dsimp (decide := true) (maxSteps := 1000000) (disch := first | omega | simp (decide := true) only [fixpb2]) only [fixpb3, ↓brun_b, envOf, reduceIte, Nat.reduceEqDiff, Nat.reduceAdd, Nat.reduceSub, Nat.reduceMul, Nat.reduceBEq, Nat.reduceLeDiff, Nat.reduceLT, Int.reduceToNat, rho]
  refine SQ.answer (rs := [.tmp 0]) rfl rfl ?_
  simp -dsimp (decide := true) (maxSteps := 1000000) (disch := first | omega | simp (decide := true) only [fixpb2]) only [fixpb12, ↓brun_b, envOf, reduceIte, Nat.reduceEqDiff, Nat.reduceAdd, Nat.reduceSub, Nat.reduceMul, Nat.reduceBEq, Nat.reduceLeDiff, Nat.reduceLT, Int.reduceToNat, rho, frz1, ↓reduceIte]
end Go.Proofs
