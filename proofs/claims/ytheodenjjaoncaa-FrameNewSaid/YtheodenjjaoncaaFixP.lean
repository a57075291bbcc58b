/- Contracts of functions that the laws reach, on abstract values, and what they need: no conditions but those that each theorem states. -/
import Derived.Test.YtheodenjjaoncaaEncQ
import Derived.Test.YtheodenjjaoncaaDecP2
set_option linter.unusedVariables false
set_option linter.unusedSimpArgs false
set_option linter.defProp false
namespace Go.Proofs
open Go Go.SL
set_option maxRecDepth 100000
def fixpc0 :=
  (aI (aI @cells_int (aI @fieldPlaceOf_eq @sagg_some)) (aI @sfill1_some (aI @sfill_cons @sfill_nil)))
def fixpb0 :=
  (aI fixpc0 (aI @p144_b @tab.f144x1))
theorem b144o : sBuild Try.prog 144 [(1, .v (.int .i64 1))] = some ⟨.agg (I16.zero.c ++ [.v (.int .i64 1)]), {}, True⟩ := by
  have e : sBuild Try.prog 144 [(1, .v (.int .i64 1))] = sagg (sfill (fieldPlaceOf Try.prog 144) (I16.zero.c ++ [.v (.int .i64 0)]) [(1, .v (.int .i64 1))]) := by
    rw [sBuild_eq, tab.z144, tab.l144]; rfl
  rw [e]
  simp (disch := simp [I16.c_length]) only [fixpb0, Option.map_some]
theorem b151d : sBuild Try.prog 151 [(0, .v (.int .i64 5)), (1, .agg (I16.zero.c ++ [.v (.int .i64 1)]))] = some ⟨.agg (FC.c { zF with kind := .v (.int .i64 5), who := I16.zero, pn := .v (.int .i64 1) }), {}, True⟩ := b151k5 I16.zero 1
def fixpb1 :=
  (aI (aI fixpc0 @FC.set_kind) (aI @bl151 @tab.f151x0))
theorem b151e : sBuild Try.prog 151 [(0, .v (.int .i64 5))] = some ⟨.agg (FC.c { zF with kind := .v (.int .i64 5) }), {}, True⟩ := by
  simp (disch := simp [FC.c_length, I16.c_length, IC.c_length]) only [fixpb1, Option.map_some]
def dF : Frm := { kF 5 with who := I16.zero, pn := 1 }
def dB : List UInt8 := [1, 5, 0, 0, 0, 0, 0, 0, 0, 0, 0, 0, 0, 0, 0, 0, 0, 0, 1, 1]
theorem dF_wf : dF.wf := by
  constructor <;> first | (unfold I64; decide) | (intro m hm; cases hm) | (unfold reachBytes; decide)
theorem dF_ent {fz : Nat → Option SB} {ρ : Nat → Nat} : EntL fz ρ dF.fc.c (FC.c { zF with kind := .v (.int .i64 5), who := I16.zero, pn := .v (.int .i64 1) }) = True := eq_true (bare_ent5 dF)
theorem kF_ent {fz : Nat → Option SB} {ρ : Nat → Nat} : EntL fz ρ (kF 5).fc.c (FC.c { zF with kind := .v (.int .i64 5) }) = True := eq_true (by
  unfold kF zFrm Frm.fc zF
  rw [FC.ent]
  (repeat' apply And.intro) <;> first | exact Ent.self (flat_v _) | exact ent_nil _)
theorem bytes_tell5 {f : FuncId} {args : List SV} {b : List UInt8} {e : Value} (h : SCall Try.prog f args [] fun r L => r = .ret (.tup [.slc 0 0 b.length, .v e]) ∧ L = [bytR b]) : Pure Try.prog f args (.tup [bsl b, .v e]) := by
  refine SCall.tell [] h ⟨rfl, rfl, rfl, rfl, rfl, rfl, ⟨⟨_, rfl, _, _, rfl, ?_, _, _, rfl, rfl, rfl⟩, trivial⟩, trivial⟩
  exact Ent_row rfl rfl (brows_length b).symm (by omega) fun i r hr => by
    obtain ⟨h1, rfl⟩ := brows_get hr
    rw [Nat.zero_add]
    exact EntL.self rfl
theorem enc_d : Pure Try.prog 114 [.agg dF.fc.c] (.tup [bsl dB, .v (.int .i64 0)]) := by
  have h := bytes_tell5 (enc_5 dF dF_wf rfl (by decide) (by decide))
  rw [show bytesB dF = dB by decide] at h
  exact h
theorem dr_tell (b : List UInt8) (F : Frm) (e : Int) (hd : decode b = (F, e)) (h : SCall Try.prog 117 [bsl b] [] (DR b)) : Pure Try.prog 117 [bsl b] (.tup [.agg F.fc.c, .v (.int .i64 e)]) := by
  have h' : SCall Try.prog 117 [bsl b] [] fun r M => r = .ret (.tup [.agg F.fc.c, .v (.int .i64 e)]) ∧ M = [none, none] := h.mono fun r L hR => by
    unfold DR at hR
    rw [hd] at hR
    exact hR
  refine SCall.tell [] h' ⟨rfl, rfl, rfl, rfl, rfl, rfl, ⟨Ent.self ?_, trivial⟩, trivial⟩
  simp only [flat_tup, flatL_cons, flatL_nil, flat_agg, frmF_flat, flat_v, Bool.and_self]
theorem dec_a : decode [1, 13] = (zFrm, 2) := by kernel_rfl
theorem dec_b : decode [] = (zFrm, 3) := by kernel_rfl
theorem dec_c : decode (dB ++ [0]) = (zFrm, 4) := by kernel_rfl
theorem bs35_d (N : Nat) : sBuildSlice Try.prog N 35 2 [(0, .v (.int .u8 1)), (1, .v (.int .u8 13))] = some ⟨.slc N 0 2, ⟨none, some (.row ⟨1, 2, true, 5, fun e => ((bcells [1, 13]).drop (e * 1)).take 1⟩)⟩, True⟩ := by kernel_rfl
theorem bs35_z (N : Nat) : sBuildSlice Try.prog N 35 1 [(0, .v (.int .u8 0))] = some ⟨.slc N 0 1, ⟨none, some (.row ⟨1, 1, true, 5, fun e => ((bcells [0]).drop (e * 1)).take 1⟩)⟩, True⟩ := by kernel_rfl
theorem fix_row {fz : Nat → Option SB} {ρ : Nat → Nat} {i : Nat} {r : List SV} (h : (brows (dB ++ [0]))[i]? = some r) : EntL fz ρ r (if 0 + i < dB.length then if 0 + i < 0 then List.take 1 (List.drop (0 + i) []) else (brows dB).getD (0 + i - 0) [] else List.take 1 (List.drop (0 + i - dB.length) (bcells [0]))) := by
  obtain ⟨h1, rfl⟩ := brows_get h
  have hl : dB.length = 20 := rfl
  rw [List.length_append, hl] at h1
  have h2 : i < 21 := h1
  rw [Nat.zero_add, Nat.sub_zero, if_neg (Nat.not_lt_zero i), hl]
  by_cases hi : i < 20
  · rw [if_pos hi, brows_at dB i (by rw [hl]; exact hi), ← brow_app2 dB [0] i (by rw [hl]; omega), if_pos (by rw [hl]; exact hi)]
    exact EntL.self rfl
  · obtain rfl : i = 20 := by omega
    exact EntL.self rfl
theorem dB_1 : (brows dB).getD 1 [] = [.v (.int .u8 5)] := rfl
theorem dB_18 : (brows dB).getD 18 [] = [.v (.int .u8 1)] := rfl
theorem dB_len : dB.length = 20 := rfl
def fixpc1 :=
  (aI (aI (aI (aI @FC.c_length @FC.ent) (aI @FC.set_all (aI @I16.c_length @Int.cast_ofNat_Int))) (aI (aI @List.replicate_succ.{0} @List.replicate_zero.{0}) (aI @SKren_row (aI @after_mk @al151)))) (aI (aI (aI @b144o @b151d) (aI @b151e (aI @cellAt_succ @cellAt_zero))) (aI (aI @mergeL_done @renL_cons) (aI @renL_flat (aI @renL_nil @ren_tup)))))
def fixpc2 :=
  (aI (aI (aI @beq_self_eq_true.{0} @brun_a) (aI @cond_false.{1} @cond_true.{1})) (aI (aI @tab.a5 @tab.s151) (aI @tab.s5 (aI @tab.u181 @tab.u35))))
def fixpb2 :=
  (aI (aI fixpc1 fixpc2) (aI @tab.f144x1 @tab.f151x0))
def fixpb3 :=
  (aI (aI (aI fixpc1 fixpc2) (aI @bwk_a (aI @dF_ent @eq_self.{1}))) (aI (aI @forall_const.{1} @implies_true.{0}) (aI @implies_true.{1} (aI @tab.f144x1 @tab.f151x0))))
def fixpb4 :=
  (aI fixpc2 (aI @tab.f144x1 @tab.f151x0))
def fixpb5 :=
  (aI (aI fixpc1 fixpc2) (aI @bs35_d (aI @tab.f144x1 @tab.f151x0)))
def fixpb6 :=
  (aI (aI (aI fixpc1 fixpc2) (aI @brows_nil (aI @bwk_a @eq_self.{1}))) (aI (aI @forall_const.{1} @implies_true.{0}) (aI @implies_true.{1} (aI @tab.f144x1 @tab.f151x0))))
def fixpb7 :=
  (aI (aI fixpc1 (aI fixpc2 @bs35_0)) (aI @bs35_z (aI @tab.f144x1 @tab.f151x0)))
def fixpb8 :=
  (aI (aI (aI fixpc1 fixpc2) (aI @bwk_a (aI @eq_self.{1} @forall_const.{1}))) (aI (aI @implies_true.{0} @implies_true.{1}) (aI @kF_ent (aI @tab.f144x1 @tab.f151x0))))
def fixpb9 :=
  (aI (aI (aI fixpc1 fixpc2) (aI @dB_1 @dB_18)) (aI (aI @dB_len @sop_inv) (aI @tab.f144x1 @tab.f151x0)))
def fixpb10 :=
  (aI (aI (aI fixpc1 fixpc2) (aI @bwk_a @eq_self.{1})) (aI (aI @forall_const.{1} @implies_true.{0}) (aI @implies_true.{1} (aI @tab.f144x1 @tab.f151x0))))
set_option maxHeartbeats 8000000 in
theorem fixed4_calls : Pure Try.prog 116 [] (.v (.bool true)) := by
  have cE := enc_d
  have cA := dr_tell [1, 13] zFrm 2 dec_a (dec_un [1, 13] (by decide) 13 2 (by kernel_rfl) (by decide))
  have cB := dr_tell [] zFrm 3 dec_b (dec_bad [] (by decide) 3 (by kernel_rfl))
  have cC := dr_tell (dB ++ [0]) zFrm 4 dec_c (dec_5 (dB ++ [0]) (by decide) 2 (by kernel_rfl))
  have cO := of_k5 (kF 5) rfl
  refine SCall.mk (fn := Try.f116) (by kernel_rfl) rfl (Nat.le_of_ble_eq_true (by kernel_rfl)) ?_
  refine goC ?_
  simp -dsimp +decide (disch := first | omega | simp +decide only [bdset_a, zF, zE, zH, zK, zD, FC.c_length, I16.c_length, frmF_flat]) only [fixpb2, ↓brun_b, envOf]
  refine SemOps.callw [] cal.f114 (cE) rfl rfl rfl (by simp -dsimp +decide (disch := first | omega | simp +decide only [bdset_a, zF, zE, zH, zK, zD, FC.c_length, I16.c_length, frmF_flat]) only [fixpb3, ↓brun_b, rho]) rfl (by simp -dsimp +decide (disch := first | omega | simp +decide only [bdset_a, zF, zE, zH, zK, zD, FC.c_length, I16.c_length, frmF_flat]) only [fixpb3, rho]) (dK rfl) ?_
  refine goK ?_
  simp -dsimp +decide (disch := first | omega | simp +decide only [bdset_a, zF, zE, zH, zK, zD, FC.c_length, I16.c_length, frmF_flat]) only [fixpb5, ↓brun_b, Nat.reduceBEq, rho]
  refine SemOps.frz (d := 18) (brows [1, 13]) rfl rfl rfl (by omega) (fun i r h => ent_bcells h) ?_
  refine SemOps.callq (k := 1000) cal.f117 (cA) rfl rfl rfl rfl (by simp only [bflat_a]) (by simp only [bflat_a, frmF_flat]) (dK rfl) ?_
  simp -dsimp +decide (disch := first | omega | simp +decide only [bdset_a, zF, zE, zH, zK, zD, FC.c_length, I16.c_length, frmF_flat]) only [fixpb2, ↓brun_b, Nat.reduceAdd, Nat.reduceBEq]
  refine SemOps.callw [] cal.f117 (cB) rfl rfl rfl (by simp -dsimp +decide (disch := first | omega | simp +decide only [bdset_a, zF, zE, zH, zK, zD, FC.c_length, I16.c_length, frmF_flat]) only [fixpb6, Nat.reduceAdd, rho, bsl]) rfl (by simp -dsimp +decide (disch := first | omega | simp +decide only [bdset_a, zF, zE, zH, zK, zD, FC.c_length, I16.c_length, frmF_flat]) only [fixpb6, Nat.reduceAdd, rho]) (dK rfl) ?_
  refine goK ?_
  simp -dsimp +decide (disch := first | omega | simp +decide only [bdset_a, zF, zE, zH, zK, zD, FC.c_length, I16.c_length, frmF_flat]) only [fixpb7, ↓brun_b, Nat.reduceAdd, Nat.reduceBEq, rho, sapp1_sl el5]
  refine SemOps.frz (d := 31) (brows (dB ++ [0])) rfl rfl rfl (by omega) (fun i r h => fix_row h) ?_
  refine SemOps.callq (k := 1000) cal.f117 (cC) rfl rfl rfl rfl (by simp only [bflat_a]) (by simp only [bflat_a, frmF_flat]) (dK rfl) ?_
  simp -dsimp +decide (disch := first | omega | simp +decide only [bdset_a, zF, zE, zH, zK, zD, FC.c_length, I16.c_length, frmF_flat]) only [fixpb2, ↓brun_b, Nat.reduceAdd, Nat.reduceBEq]
  refine SemOps.callw [] cal.f119 (cO) rfl rfl rfl (by simp -dsimp +decide (disch := first | omega | simp +decide only [bdset_a, zF, zE, zH, zK, zD, FC.c_length, I16.c_length, frmF_flat]) only [fixpb8, ↓brun_b, Nat.reduceAdd, rho]) rfl (by simp -dsimp +decide (disch := first | omega | simp +decide only [bdset_a, zF, zE, zH, zK, zD, FC.c_length, I16.c_length, frmF_flat]) only [fixpb8, Nat.reduceAdd, rho]) (dK rfl) ?_
  refine goK ?_
  simp -dsimp +decide (disch := first | omega | simp +decide only [bdset_a, zF, zE, zH, zK, zD, FC.c_length, I16.c_length, frmF_flat]) only [fixpb9, ↓brun_b, Nat.reduceAdd, Nat.reduceBEq, Int.reduceToNat, rho]
  refine SemOps.callI rfl rfl rfl meth230 cal.f194 (kind_k5 (kF 5)) (bodyF_5 (kF 5)) rfl (by simp -dsimp +decide (disch := first | omega | simp +decide only [bdset_a, zF, zE, zH, zK, zD, FC.c_length, I16.c_length, frmF_flat]) only [fixpb2]) ?_
  refine goK ?_
  simp -dsimp +decide (disch := first | omega | simp +decide only [bdset_a, zF, zE, zH, zK, zD, FC.c_length, I16.c_length, frmF_flat]) only [fixpb2, ↓brun_b, Nat.reduceAdd, Nat.reduceBEq]
  refine SQ.answer (rs := [.tmp 0]) rfl rfl ?_
  simp -dsimp +decide (disch := first | omega | simp +decide only [bdset_a, zF, zE, zH, zK, zD, FC.c_length, I16.c_length, frmF_flat]) only [fixpb10, ↓brun_b, Nat.reduceAdd, rho]
end Go.Proofs
