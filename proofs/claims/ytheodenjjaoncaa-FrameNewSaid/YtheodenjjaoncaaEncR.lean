/- Contracts of functions that the laws reach, on abstract values, and what they need: no conditions but those that each theorem states. -/
import Derived.Test.YtheodenjjaoncaaEncQ
set_option linter.unusedVariables false
set_option linter.unusedSimpArgs false
set_option linter.defProp false
namespace Go.Proofs
open Go Go.SL
set_option maxRecDepth 100000
def encrc0 :=
  (aI (aI @AD.c_length (aI @AK.c_length @CP.c_length)) (aI (aI @GT.c_length @PE.c_length) (aI @PK.c_length @idrs_len)))
def encrb0 :=
  (aI (aI (aI (aI encrc0 @AD.one) (aI @AK.one @CP.one)) (aI (aI @GT.one @IC.flat) (aI @PE.one (aI @PK.one @bdset_a)))) (aI (aI (aI @brow_flat @idrs_flat) (aI @lrows_flat (aI @p144_flat @trows_flat))) (aI (aI @zD.eq_1 @zE.eq_1) (aI @zF.eq_1 (aI @zH.eq_1 @zK.eq_1)))))
def encrc1 :=
  (aI (aI (aI (aI (aI (aI @AD.at_n @AD.part_a) (aI @AD.set_all @AK.at_op)) (aI (aI @AK.at_toA @AK.at_tr) (aI @AK.part_P @AK.part_a))) (aI (aI (aI @AK.part_b @AK.set_all) (aI @CP.at_toA @CP.part_P)) (aI (aI @CP.part_it @CP.set_all) (aI @GT.at_toA @GT.at_vn)))) (aI (aI (aI (aI @GT.part_P @GT.part_key) (aI @GT.part_vwho @GT.set_all)) (aI (aI @Int.cast_ofNat_Int @List.replicate_succ.{0}) (aI @List.replicate_zero.{0} @PE.at_is))) (aI (aI (aI @PE.at_toA @PE.part_P) (aI @PE.set_all @PK.at_n)) (aI (aI @PK.at_op @PK.at_ttl) (aI @PK.at_tx @PK.part_a))))) (aI (aI (aI (aI (aI @PK.part_b @PK.part_it) (aI @PK.set_all @SKren_row)) (aI (aI @after_mk @al235) (aI @al237 @al239))) (aI (aI (aI @al241 @al244) (aI @al246 @bs44_1)) (aI (aI @bs69_1 @bs69_3) (aI @bs79 @bs79_2)))) (aI (aI (aI (aI @cellAt_succ @cellAt_zero) (aI @hit235 @hit237)) (aI (aI @hit239 @hit241) (aI @hit244 @hit246))) (aI (aI (aI @mergeL_done @mergeL_own) (aI @renL_cons @renL_flat)) (aI (aI @renL_nil @ren_tup) (aI @sop_assert (aI @splice_0 @splice_c)))))))
def encrc2 :=
  (aI (aI (aI (aI (aI @beq_self_eq_true.{0} (aI @brun_a @cond_false.{1})) (aI (aI @cond_true.{1} @tab.a144) (aI @tab.a145 @tab.a149))) (aI (aI @tab.a2 (aI @tab.a23 @tab.a3)) (aI (aI @tab.a35 @tab.a4) (aI @tab.a79 @tab.f147x0)))) (aI (aI (aI @tab.f147x1 (aI @tab.f222x0 @tab.f235x0)) (aI (aI @tab.f235x1 @tab.f235x2) (aI @tab.f237x0 @tab.f237x1))) (aI (aI (aI @tab.f237x2 @tab.f237x3) (aI @tab.f237x4 @tab.f237x5)) (aI (aI @tab.f239x0 @tab.f239x1) (aI @tab.f241x0 @tab.f241x1))))) (aI (aI (aI (aI @tab.f241x2 (aI @tab.f241x3 @tab.f241x4)) (aI (aI @tab.f241x5 @tab.f241x6) (aI @tab.f244x0 @tab.f244x1))) (aI (aI @tab.f244x2 (aI @tab.f246x0 @tab.f246x1)) (aI (aI @tab.f246x2 @tab.f246x3) (aI @tab.s144 @tab.s145)))) (aI (aI (aI @tab.s149 (aI @tab.s2 @tab.s23)) (aI (aI @tab.s235 @tab.s237) (aI @tab.s239 @tab.s241))) (aI (aI (aI @tab.s244 @tab.s246) (aI @tab.s3 @tab.s35)) (aI (aI @tab.s4 @tab.s79) (aI @tab.u35 @tab.u79))))))
def encrb1 :=
  (And.intro encrc1 (And.intro encrc0 encrc2))
def encrb2 :=
  (aI (aI (aI encrc1 encrc0) (aI encrc2 @bwk_a)) (aI (aI @eq_self.{1} @forall_const.{1}) (aI @implies_true.{0} @implies_true.{1})))
set_option maxHeartbeats 8000000 in
theorem enc_7 (F : Frm) (hw : F.wf) (hk : F.kind = 7) (hr : rightB 7 F = true) (hs : frmEq (bare 7 F) F = true) : SCall Try.prog 114 [.agg F.fc.c] [] fun r L => r = .ret (.tup [.slc 0 0 (bytesB F).length, .v (.int .i64 0)]) ∧ L = [bytR (bytesB F)] := by
  have hft := fits_7 F hw hr
  simp only [fits] at hft
  have b_ltx : F.tx.length ≤ 140737488355328 := wfB hw
  have b_lval : F.val.length ≤ 140737488355328 := wfA hw
  have b_ltr : F.tr.length * 8 ≤ 140737488355328 := wfC hw
  have b_lis : F.is.length * 16 ≤ 140737488355328 := wfD hw
  have h1 : F.tr.length < 4611686018427387904 := wfE hw
  have h2 : F.is.length < 4611686018427387904 := wfG hw
  have hright := right_k7 F
  rw [hr] at hright
  have hsame := same143_calls (bare 7 F) F (by show 0 < 4611686018427387904; decide) h2 h1 h2
  rw [hs] at hsame
  refine enc_head F 235 _ (bodyF_7 F) (of_k7 F hk b_lis) hright _ (plainB_7 F b_lis) hsame 7 (by decide) 196 meth235 cal.f196 (kind_k7 F) _ fun c hc A hA => ?_
  cases hc
  have hL0 := N_le 7 (by decide)
  rw [hA] at hL0
  refine goC ?_
  simp -dsimp +decide (disch := first | omega | simp +decide only [encrb0]) only [encrb1, ↓brun_b, Nat.reduceAdd, Nat.reduceBEq, fun v => miss214 235 v (by decide), fun v => miss210 235 v (by decide), fun v => miss218 235 v (by decide), fun v => miss226 235 v (by decide), fun v => miss230 235 v (by decide), fun v => miss232 235 v (by decide)]
  have hk1 : (iB F.who ++ N F.pn).length ≤ 25 := by have := N_le F.pn (by omega); simp only [List.length_append, iB_length]; omega
  have c1 := (path_lays F.who F.pn (by omega)) A (by omega)
  have hL1 : (A ++ (iB F.who ++ N F.pn)).length = A.length + ((iB F.who ++ N F.pn)).length := List.length_append
  generalize hA1 : A ++ (iB F.who ++ N F.pn) = A1 at c1 hL1
  refine lcall 1 cal.f146 c1 rfl rfl rfl rfl (by simp only [bflat_a, p144_flat]) rfl rfl rfl rfl ?_
  refine goK ?_
  simp -dsimp +decide (disch := first | omega | simp +decide only [encrb0]) only [encrb1, ↓brun_b, Nat.reduceAdd, Nat.reduceBEq, rho, ladR, bytR]
  have hk2 : (flB F.toA).length ≤ 9 := by cases F.toA <;> decide
  have c2 := (flag_lays F.toA) A1 (by omega)
  have hL2 : (A1 ++ flB F.toA).length = A1.length + (flB F.toA).length := List.length_append
  generalize hA2 : A1 ++ flB F.toA = A2 at c2 hL2
  refine lcall 3 cal.f148 c2 rfl rfl rfl rfl (by simp only [bflat_a]) rfl rfl rfl rfl ?_
  refine goK ?_
  simp -dsimp +decide (disch := first | omega | simp +decide only [encrb0]) only [encrb1, ↓brun_b, Nat.reduceAdd, Nat.reduceBEq, rho, ladR, bytR]
  have hk3 : (nB [(F.is.length : Int)]).length ≤ 9 := by have := nB_len [(F.is.length : Int)] (by intro n h; simp only [List.mem_cons, List.not_mem_nil, or_false] at h; omega); simpa using this
  have c3 := (num_lays [(F.is.length : Int)] (by intro n h; simp only [List.mem_cons, List.not_mem_nil, or_false] at h; omega) (by show 1 < 4611686018427387904; decide)) A2 (by omega)
  have hL3 : (A2 ++ nB [(F.is.length : Int)]).length = A2.length + (nB [(F.is.length : Int)]).length := List.length_append
  generalize hA3 : A2 ++ nB [(F.is.length : Int)] = A3 at c3 hL3
  refine SemOps.frz (d := 172) (lrows [(F.is.length : Int)]) rfl rfl rfl (by omega) (fun i r h => ent_icells h) ?_
  refine lcall 4 cal.f144 c3 rfl rfl rfl rfl (by simp only [bflat_a, lrows_flat]) rfl rfl rfl rfl ?_
  refine goK ?_
  simp -dsimp +decide (disch := first | omega | simp +decide only [encrb0]) only [encrb1, ↓brun_b, Nat.reduceAdd, Nat.reduceBEq, rho, ladR, bytR]
  have hk4 : (idsB F.is).length ≤ 256 := by rw [idsB_length]; omega
  have c4 := (ids_lays F.is h2) A3 (by omega)
  have hL4 : (A3 ++ idsB F.is).length = A3.length + (idsB F.is).length := List.length_append
  generalize hA4 : A3 ++ idsB F.is = A4 at c4 hL4
  refine lcall 6 cal.f145 c4 rfl rfl rfl rfl (by simp only [bflat_a, idrs_flat]) rfl rfl rfl rfl ?_
  refine goK ?_
  simp -dsimp +decide (disch := first | omega | simp +decide only [encrb0]) only [encrb1, ↓brun_b, Nat.reduceAdd, Nat.reduceBEq, rho, ladR, bytR]
  have hE : bytesB F = A4 := by
    have hkk : F.k = 7 := by unfold Frm.k; rw [hk]; rfl
    have h0 : N 7 = form 7 := rfl
    unfold bytesB
    rw [hkk, ← hA4, ← hA3, ← hA2, ← hA1, ← hA, h0]
    simp only [bodyB, nB_cons, nB_nil, N_nat, List.append_assoc, List.append_nil]
  rw [hE]
  refine SQ.runL (rs := [.tmp 2, .tmp 3]) [7] _ _ rfl (And.intro rfl rfl) (by decide) rfl rfl ?_ ?_
  · simp -dsimp +decide (disch := first | omega | simp +decide only [encrb0]) only [encrb2, Nat.reduceAdd]
  · simp -dsimp +decide (disch := first | omega | simp +decide only [encrb0]) only [encrb2, ↓brun_b, Nat.reduceAdd, Nat.reduceBEq]
end Go.Proofs
namespace Go.Proofs
open Go Go.SL
set_option maxRecDepth 100000
set_option maxHeartbeats 8000000 in
theorem enc_8 (F : Frm) (hw : F.wf) (hk : F.kind = 8) (hr : rightB 8 F = true) (hs : frmEq (bare 8 F) F = true) : SCall Try.prog 114 [.agg F.fc.c] [] fun r L => r = .ret (.tup [.slc 0 0 (bytesB F).length, .v (.int .i64 0)]) ∧ L = [bytR (bytesB F)] := by
  have hft := fits_8 F hw hr
  simp only [fits] at hft
  have b_ltx : F.tx.length ≤ 140737488355328 := wfB hw
  have b_lval : F.val.length ≤ 140737488355328 := wfA hw
  have b_ltr : F.tr.length * 8 ≤ 140737488355328 := wfC hw
  have b_lis : F.is.length * 16 ≤ 140737488355328 := wfD hw
  have h1 : F.tr.length < 4611686018427387904 := wfE hw
  have h2 : F.is.length < 4611686018427387904 := wfG hw
  have hright := right_k8 F h1
  rw [hr] at hright
  have hsame := same143_calls (bare 8 F) F h1 (by show 0 < 4611686018427387904; decide) h1 h2
  rw [hs] at hsame
  refine enc_head F 237 _ (bodyF_8 F) (of_k8 F hk b_ltr) hright _ (plainB_8 F b_ltr) hsame 8 (by decide) 197 meth237 cal.f197 (kind_k8 F) _ fun c hc A hA => ?_
  cases hc
  have hL0 := N_le 8 (by decide)
  rw [hA] at hL0
  refine goC ?_
  simp -dsimp +decide (disch := first | omega | simp +decide only [encrb0]) only [encrb1, ↓brun_b, Nat.reduceAdd, Nat.reduceBEq, fun v => miss214 237 v (by decide), fun v => miss210 237 v (by decide), fun v => miss218 237 v (by decide), fun v => miss226 237 v (by decide), fun v => miss230 237 v (by decide), fun v => miss232 237 v (by decide), fun v => miss235 237 v (by decide)]
  have hk1 : ((iB F.a ++ iB F.b)).length ≤ 32 := by simp only [List.length_append, iB_length]; omega
  have c1 := (idLay2 F.a F.b) A (by omega)
  have hL1 : (A ++ (iB F.a ++ iB F.b)).length = A.length + ((iB F.a ++ iB F.b)).length := List.length_append
  generalize hA1 : A ++ (iB F.a ++ iB F.b) = A1 at c1 hL1
  refine SemOps.frz (d := 186) (idrs [F.a, F.b]) rfl rfl rfl (by omega) (fun i r h => ent_id2 h) ?_
  refine lcall 1 cal.f145 c1 rfl rfl rfl rfl (by simp only [bflat_a, idrs_flat]) rfl rfl rfl rfl ?_
  refine goK ?_
  simp -dsimp +decide (disch := first | omega | simp +decide only [encrb0]) only [encrb1, ↓brun_b, Nat.reduceAdd, Nat.reduceBEq, rho, ladR, bytR]
  have hk2 : (nB [F.op]).length ≤ 9 := by have := nB_len [F.op] (by intro n h; simp only [List.mem_cons, List.not_mem_nil, or_false] at h; omega); simpa using this
  have c2 := (num_lays [F.op] (by intro n h; simp only [List.mem_cons, List.not_mem_nil, or_false] at h; omega) (by show 1 < 4611686018427387904; decide)) A1 (by omega)
  have hL2 : (A1 ++ nB [F.op]).length = A1.length + (nB [F.op]).length := List.length_append
  generalize hA2 : A1 ++ nB [F.op] = A2 at c2 hL2
  refine SemOps.frz (d := 191) (lrows [F.op]) rfl rfl rfl (by omega) (fun i r h => ent_icells h) ?_
  refine lcall 4 cal.f144 c2 rfl rfl rfl rfl (by simp only [bflat_a, lrows_flat]) rfl rfl rfl rfl ?_
  refine goK ?_
  simp -dsimp +decide (disch := first | omega | simp +decide only [encrb0]) only [encrb1, ↓brun_b, Nat.reduceAdd, Nat.reduceBEq, rho, ladR, bytR]
  have hk3 : (iB F.who ++ N F.pn).length ≤ 25 := by have := N_le F.pn (by omega); simp only [List.length_append, iB_length]; omega
  have c3 := (path_lays F.who F.pn (by omega)) A2 (by omega)
  have hL3 : (A2 ++ (iB F.who ++ N F.pn)).length = A2.length + ((iB F.who ++ N F.pn)).length := List.length_append
  generalize hA3 : A2 ++ (iB F.who ++ N F.pn) = A3 at c3 hL3
  refine lcall 6 cal.f146 c3 rfl rfl rfl rfl (by simp only [bflat_a, p144_flat]) rfl rfl rfl rfl ?_
  refine goK ?_
  simp -dsimp +decide (disch := first | omega | simp +decide only [encrb0]) only [encrb1, ↓brun_b, Nat.reduceAdd, Nat.reduceBEq, rho, ladR, bytR]
  have hk4 : (flB F.toA).length ≤ 9 := by cases F.toA <;> decide
  have c4 := (flag_lays F.toA) A3 (by omega)
  have hL4 : (A3 ++ flB F.toA).length = A3.length + (flB F.toA).length := List.length_append
  generalize hA4 : A3 ++ flB F.toA = A4 at c4 hL4
  refine lcall 7 cal.f148 c4 rfl rfl rfl rfl (by simp only [bflat_a]) rfl rfl rfl rfl ?_
  refine goK ?_
  simp -dsimp +decide (disch := first | omega | simp +decide only [encrb0]) only [encrb1, ↓brun_b, Nat.reduceAdd, Nat.reduceBEq, rho, ladR, bytR]
  have htr : ∀ v ∈ F.tr, 0 ≤ v ∧ v < 6 := hft.2.1.2
  have hk5 : (form F.tr.length ++ legB F.tr).length ≤ 600 := by have := legB_len F.tr (fun v hv => by have := htr v hv; omega); have := form_le F.tr.length (by omega); simp only [List.length_append]; omega
  have c5 := (trail_lays F.tr (fun v hv => by have := hw.tr v hv; have := htr v hv; unfold I64 at *; omega) h1) A4 (by omega)
  have hL5 : (A4 ++ (form F.tr.length ++ legB F.tr)).length = A4.length + ((form F.tr.length ++ legB F.tr)).length := List.length_append
  generalize hA5 : A4 ++ (form F.tr.length ++ legB F.tr) = A5 at c5 hL5
  refine lcall 8 cal.f147 c5 rfl rfl rfl rfl (by simp only [bflat_a, lrows_flat]) rfl rfl rfl rfl ?_
  refine goK ?_
  simp -dsimp +decide (disch := first | omega | simp +decide only [encrb0]) only [encrb1, ↓brun_b, Nat.reduceAdd, Nat.reduceBEq, rho, ladR, bytR]
  have hE : bytesB F = A5 := by
    have hkk : F.k = 8 := by unfold Frm.k; rw [hk]; rfl
    have h0 : N 8 = form 8 := rfl
    unfold bytesB
    rw [hkk, ← hA5, ← hA4, ← hA3, ← hA2, ← hA1, ← hA, h0]
    simp only [bodyB, nB_cons, nB_nil, List.append_assoc, List.append_nil]
  rw [hE]
  refine SQ.runL (rs := [.tmp 2, .tmp 3]) [9] _ _ rfl (And.intro rfl rfl) (by decide) rfl rfl ?_ ?_
  · simp -dsimp +decide (disch := first | omega | simp +decide only [encrb0]) only [encrb2, Nat.reduceAdd]
  · simp -dsimp +decide (disch := first | omega | simp +decide only [encrb0]) only [encrb2, ↓brun_b, Nat.reduceAdd, Nat.reduceBEq]
end Go.Proofs
namespace Go.Proofs
open Go Go.SL
set_option maxRecDepth 100000
set_option maxHeartbeats 8000000 in
theorem enc_9 (F : Frm) (hw : F.wf) (hk : F.kind = 9) (hr : rightB 9 F = true) (hs : frmEq (bare 9 F) F = true) : SCall Try.prog 114 [.agg F.fc.c] [] fun r L => r = .ret (.tup [.slc 0 0 (bytesB F).length, .v (.int .i64 0)]) ∧ L = [bytR (bytesB F)] := by
  have hft := fits_9 F hw hr
  simp only [fits] at hft
  have b_ltx : F.tx.length ≤ 140737488355328 := wfB hw
  have b_lval : F.val.length ≤ 140737488355328 := wfA hw
  have b_ltr : F.tr.length * 8 ≤ 140737488355328 := wfC hw
  have b_lis : F.is.length * 16 ≤ 140737488355328 := wfD hw
  have h1 : F.tr.length < 4611686018427387904 := wfE hw
  have h2 : F.is.length < 4611686018427387904 := wfG hw
  have hright := right_k9 F
  rw [hr] at hright
  have hsame := same143_calls (bare 9 F) F (by show 0 < 4611686018427387904; decide) (by show 0 < 4611686018427387904; decide) h1 h2
  rw [hs] at hsame
  refine enc_head F 239 _ (bodyF_9 F) (of_k9 F hk) hright _ (plainB_9 F) hsame 9 (by decide) 198 meth239 cal.f198 (kind_k9 F) _ fun c hc A hA => ?_
  cases hc
  have hL0 := N_le 9 (by decide)
  rw [hA] at hL0
  refine goC ?_
  simp -dsimp +decide (disch := first | omega | simp +decide only [encrb0]) only [encrb1, ↓brun_b, Nat.reduceAdd, Nat.reduceBEq, fun v => miss214 239 v (by decide), fun v => miss210 239 v (by decide), fun v => miss218 239 v (by decide), fun v => miss226 239 v (by decide), fun v => miss230 239 v (by decide), fun v => miss232 239 v (by decide), fun v => miss235 239 v (by decide), fun v => miss237 239 v (by decide)]
  have hk1 : (iB F.a).length ≤ 16 := by simp only [iB_length]; omega
  have c1 := (idLay1 F.a) A (by omega)
  have hL1 : (A ++ iB F.a).length = A.length + (iB F.a).length := List.length_append
  generalize hA1 : A ++ iB F.a = A1 at c1 hL1
  refine SemOps.frz (d := 211) (idrs [F.a]) rfl rfl rfl (by omega) (fun i r h => ent_id1 h) ?_
  refine lcall 1 cal.f145 c1 rfl rfl rfl rfl (by simp only [bflat_a, idrs_flat]) rfl rfl rfl rfl ?_
  refine goK ?_
  simp -dsimp +decide (disch := first | omega | simp +decide only [encrb0]) only [encrb1, ↓brun_b, Nat.reduceAdd, Nat.reduceBEq, rho, ladR, bytR]
  have hk2 : (nB [F.n]).length ≤ 9 := by have := nB_len [F.n] (by intro n h; simp only [List.mem_cons, List.not_mem_nil, or_false] at h; omega); simpa using this
  have c2 := (num_lays [F.n] (by intro n h; simp only [List.mem_cons, List.not_mem_nil, or_false] at h; omega) (by show 1 < 4611686018427387904; decide)) A1 (by omega)
  have hL2 : (A1 ++ nB [F.n]).length = A1.length + (nB [F.n]).length := List.length_append
  generalize hA2 : A1 ++ nB [F.n] = A2 at c2 hL2
  refine SemOps.frz (d := 216) (lrows [F.n]) rfl rfl rfl (by omega) (fun i r h => ent_icells h) ?_
  refine lcall 4 cal.f144 c2 rfl rfl rfl rfl (by simp only [bflat_a, lrows_flat]) rfl rfl rfl rfl ?_
  refine goK ?_
  simp -dsimp +decide (disch := first | omega | simp +decide only [encrb0]) only [encrb1, ↓brun_b, Nat.reduceAdd, Nat.reduceBEq, rho, ladR, bytR]
  have hE : bytesB F = A2 := by
    have hkk : F.k = 9 := by unfold Frm.k; rw [hk]; rfl
    have h0 : N 9 = form 9 := rfl
    unfold bytesB
    rw [hkk, ← hA2, ← hA1, ← hA, h0]
    simp only [bodyB, nB_cons, nB_nil, List.append_assoc, List.append_nil]
  rw [hE]
  refine SQ.runL (rs := [.tmp 2, .tmp 3]) [6] _ _ rfl (And.intro rfl rfl) (by decide) rfl rfl ?_ ?_
  · simp -dsimp +decide (disch := first | omega | simp +decide only [encrb0]) only [encrb2, Nat.reduceAdd]
  · simp -dsimp +decide (disch := first | omega | simp +decide only [encrb0]) only [encrb2, ↓brun_b, Nat.reduceAdd, Nat.reduceBEq]
end Go.Proofs
namespace Go.Proofs
open Go Go.SL
set_option maxRecDepth 100000
def encrb3 :=
  (aI (aI (aI @List.length_cons.{0} @List.length_nil.{0}) (aI @Nat.zero_add @roL_in)) (aI (aI @roL_nil @roL_none) (aI @roL_row @ro_mk)))
set_option maxHeartbeats 8000000 in
theorem enc_10 (F : Frm) (hw : F.wf) (hk : F.kind = 10) (hr : rightB 10 F = true) (hs : frmEq (bare 10 F) F = true) : SCall Try.prog 114 [.agg F.fc.c] [] fun r L => r = .ret (.tup [.slc 0 0 (bytesB F).length, .v (.int .i64 0)]) ∧ L = [bytR (bytesB F)] := by
  have hft := fits_10 F hw hr
  simp only [fits] at hft
  have b_ltx : F.tx.length ≤ 140737488355328 := wfB hw
  have b_lval : F.val.length ≤ 140737488355328 := wfA hw
  have b_ltr : F.tr.length * 8 ≤ 140737488355328 := wfC hw
  have b_lis : F.is.length * 16 ≤ 140737488355328 := wfD hw
  have h1 : F.tr.length < 4611686018427387904 := wfE hw
  have h2 : F.is.length < 4611686018427387904 := wfG hw
  have hright := right_k10 F
  rw [hr] at hright
  have hsame := same143_calls (bare 10 F) F (by show 0 < 4611686018427387904; decide) (by show 0 < 4611686018427387904; decide) h1 h2
  rw [hs] at hsame
  refine enc_head F 241 _ (bodyF_10 F) (of_k10 F hk b_ltx b_lval) hright _ (plainB_10 F b_ltx b_lval) hsame 10 (by decide) 199 meth241 cal.f199 (kind_k10 F) _ fun c hc A hA => ?_
  cases hc
  have hL0 := N_le 10 (by decide)
  rw [hA] at hL0
  refine goC ?_
  simp -dsimp +decide (disch := first | omega | simp +decide only [encrb0]) only [encrb1, ↓brun_b, Nat.reduceAdd, Nat.reduceBEq, fun v => miss214 241 v (by decide), fun v => miss210 241 v (by decide), fun v => miss218 241 v (by decide), fun v => miss226 241 v (by decide), fun v => miss230 241 v (by decide), fun v => miss232 241 v (by decide), fun v => miss235 241 v (by decide), fun v => miss237 241 v (by decide), fun v => miss239 241 v (by decide)]
  have hk1 : ((iB F.a ++ iB F.b)).length ≤ 32 := by simp only [List.length_append, iB_length]; omega
  have c1 := (idLay2 F.a F.b) A (by omega)
  have hL1 : (A ++ (iB F.a ++ iB F.b)).length = A.length + ((iB F.a ++ iB F.b)).length := List.length_append
  generalize hA1 : A ++ (iB F.a ++ iB F.b) = A1 at c1 hL1
  refine SemOps.frz (d := 226) (idrs [F.a, F.b]) rfl rfl rfl (by omega) (fun i r h => ent_id2 h) ?_
  refine lcall 1 cal.f145 c1 rfl rfl rfl rfl (by simp only [bflat_a, idrs_flat]) rfl rfl rfl rfl ?_
  refine goK ?_
  simp -dsimp +decide (disch := first | omega | simp +decide only [encrb0]) only [encrb1, ↓brun_b, Nat.reduceAdd, Nat.reduceBEq, rho, ladR, bytR]
  have hk2 : (nB [F.n, F.op, F.ttl]).length ≤ 27 := by have := nB_len [F.n, F.op, F.ttl] (by intro n h; simp only [List.mem_cons, List.not_mem_nil, or_false] at h; omega); simpa using this
  have c2 := (num_lays [F.n, F.op, F.ttl] (by intro n h; simp only [List.mem_cons, List.not_mem_nil, or_false] at h; omega) (by show 3 < 4611686018427387904; decide)) A1 (by omega)
  have hL2 : (A1 ++ nB [F.n, F.op, F.ttl]).length = A1.length + (nB [F.n, F.op, F.ttl]).length := List.length_append
  generalize hA2 : A1 ++ nB [F.n, F.op, F.ttl] = A2 at c2 hL2
  refine SemOps.frz (d := 235) (lrows [F.n, F.op, F.ttl]) rfl rfl rfl (by omega) (fun i r h => ent_icells h) ?_
  refine lcall 4 cal.f144 c2 rfl rfl rfl rfl (by simp only [bflat_a, lrows_flat]) rfl rfl rfl rfl ?_
  refine goK ?_
  simp -dsimp +decide (disch := first | omega | simp +decide only [encrb0]) only [encrb1, ↓brun_b, Nat.reduceAdd, Nat.reduceBEq, rho, ladR, bytR]
  have hk3 : ((iB F.key ++ ((N F.vn ++ iB F.vwho) ++ txB F.val))).length ≤ 200 := by have := N_le F.vn (by omega); have := form_le F.val.length (by omega); simp only [List.length_append, iB_length, txB]; omega
  have c3 := (item_lays F.key F.vwho F.vn F.val (by omega)) A2 (by omega)
  have hL3 : (A2 ++ (iB F.key ++ ((N F.vn ++ iB F.vwho) ++ txB F.val))).length = A2.length + ((iB F.key ++ ((N F.vn ++ iB F.vwho) ++ txB F.val))).length := List.length_append
  generalize hA3 : A2 ++ (iB F.key ++ ((N F.vn ++ iB F.vwho) ++ txB F.val)) = A3 at c3 hL3
  refine lcall 6 cal.f149 c3 rfl rfl rfl rfl (by simp only [bflat_a, IC.flat]) rfl rfl rfl rfl ?_
  refine goK ?_
  simp -dsimp +decide (disch := first | omega | simp +decide only [encrb0]) only [encrb1, Nat.reduceAdd, rho, ladR, bytR]
  have hk4 : (txB F.tx).length ≤ 5000 := by have := form_le F.tx.length (by omega); simp only [List.length_append, txB]; omega
  have ct := putText1 F.tx (by omega)
  have hLt : (A3 ++ txB F.tx).length = A3.length + (txB F.tx).length := List.length_append
  have hE : bytesB F = A3 ++ txB F.tx := by
    have hkk : F.k = 10 := by unfold Frm.k; rw [hk]; rfl
    have h0 : N 10 = form 10 := rfl
    unfold bytesB
    rw [hkk, ← hA3, ← hA2, ← hA1, ← hA, h0]
    simp only [bodyB, nB_cons, nB_nil, List.append_assoc, List.append_nil]
  rw [hE]
  refine Sem.draw' (by kernel_rfl) (.one 0 (.one 1 (.one 2 (.one 3 (.one 5 (.one 6 (.alt 4 (.alt 7 (.alt 8 (.alt 9 (.one 10 (.one 11 (.alt 12 .done .non))) .non) .non) .non) (.alt 7 (.alt 4 (.alt 8 (.alt 9 (.one 10 (.one 11 (.alt 12 .done .non))) .non) .non) (.alt 8 (.alt 4 (.alt 9 (.one 10 (.one 11 (.alt 12 .done .non))) .non) .non) .non)) .non)))))))) [0, 7] (by kernel_rfl) (fun G ff hG hf => ?_)
  simp +decide only [encrb3, Nat.reduceAdd] at hG ⊢
  simp -dsimp +decide (disch := first | omega | simp +decide only [encrb0]) only [encrb1, ↓brun_b, Nat.reduceAdd, Nat.reduceBEq, hG]
  (repeat' refine And.intro ?_ ?_)
  all_goals
    refine OpSem.frz (d := 248) (trows [F.tx]) rfl rfl rfl (by omega) (fun i r h => trow_one h) ?_
    refine OpSem.callq cal.f47 (ct) rfl rfl rfl (by simp only [bflat_a, trows_flat]) (by simp only [bflat_a]) (dK rfl) ?_
    simp -dsimp +decide (disch := first | omega | simp +decide only [encrb0]) only [encrb1, ↓brun_b, Nat.reduceAdd, Nat.reduceBEq, sapp1_sl el5]
    (repeat' refine And.intro ?_ ?_)
    all_goals first | omega | skip
    all_goals
      refine hf _ (Sem.go (k := 1000) ?_)
      simp +decide only [back_mk, backL_in, backL_row, backL_none, backL_nil, Nat.zero_add, Nat.reduceAdd]
      simp -dsimp +decide (disch := first | omega | simp +decide only [encrb0]) only [encrb1, ↓brun_b, Nat.reduceAdd, Nat.reduceBEq]
      refine SQ.runL (rs := [.tmp 2, .tmp 3]) [9] _ _ rfl (And.intro rfl rfl) (by decide) rfl rfl ?_ ?_
      · simp -dsimp +decide (disch := first | omega | simp +decide only [encrb0]) only [encrb2, Nat.reduceAdd, hLt]
        intro e he
        rw [brow_app2r _ _ _ he]
        exact EntL.self rfl
      · simp -dsimp +decide (disch := first | omega | simp +decide only [encrb0]) only [encrb2, ↓brun_b, Nat.reduceAdd, Nat.reduceBEq, hLt]
end Go.Proofs
namespace Go.Proofs
open Go Go.SL
set_option maxRecDepth 100000
set_option maxHeartbeats 8000000 in
theorem enc_11 (F : Frm) (hw : F.wf) (hk : F.kind = 11) (hr : rightB 11 F = true) (hs : frmEq (bare 11 F) F = true) : SCall Try.prog 114 [.agg F.fc.c] [] fun r L => r = .ret (.tup [.slc 0 0 (bytesB F).length, .v (.int .i64 0)]) ∧ L = [bytR (bytesB F)] := by
  have hft := fits_11 F hw hr
  simp only [fits] at hft
  have b_ltx : F.tx.length ≤ 140737488355328 := wfB hw
  have b_lval : F.val.length ≤ 140737488355328 := wfA hw
  have b_ltr : F.tr.length * 8 ≤ 140737488355328 := wfC hw
  have b_lis : F.is.length * 16 ≤ 140737488355328 := wfD hw
  have h1 : F.tr.length < 4611686018427387904 := wfE hw
  have h2 : F.is.length < 4611686018427387904 := wfG hw
  have hright := right_k11 F
  rw [hr] at hright
  have hsame := same143_calls (bare 11 F) F (by show 0 < 4611686018427387904; decide) (by show 0 < 4611686018427387904; decide) h1 h2
  rw [hs] at hsame
  refine enc_head F 244 _ (bodyF_11 F) (of_k11 F hk b_lval) hright _ (plainB_11 F b_lval) hsame 11 (by decide) 200 meth244 cal.f200 (kind_k11 F) _ fun c hc A hA => ?_
  cases hc
  have hL0 := N_le 11 (by decide)
  rw [hA] at hL0
  refine goC ?_
  simp -dsimp +decide (disch := first | omega | simp +decide only [encrb0]) only [encrb1, ↓brun_b, Nat.reduceAdd, Nat.reduceBEq, fun v => miss214 244 v (by decide), fun v => miss210 244 v (by decide), fun v => miss218 244 v (by decide), fun v => miss226 244 v (by decide), fun v => miss230 244 v (by decide), fun v => miss232 244 v (by decide), fun v => miss235 244 v (by decide), fun v => miss237 244 v (by decide), fun v => miss239 244 v (by decide), fun v => miss241 244 v (by decide)]
  have hk1 : (iB F.who ++ N F.pn).length ≤ 25 := by have := N_le F.pn (by omega); simp only [List.length_append, iB_length]; omega
  have c1 := (path_lays F.who F.pn (by omega)) A (by omega)
  have hL1 : (A ++ (iB F.who ++ N F.pn)).length = A.length + ((iB F.who ++ N F.pn)).length := List.length_append
  generalize hA1 : A ++ (iB F.who ++ N F.pn) = A1 at c1 hL1
  refine lcall 1 cal.f146 c1 rfl rfl rfl rfl (by simp only [bflat_a, p144_flat]) rfl rfl rfl rfl ?_
  refine goK ?_
  simp -dsimp +decide (disch := first | omega | simp +decide only [encrb0]) only [encrb1, ↓brun_b, Nat.reduceAdd, Nat.reduceBEq, rho, ladR, bytR]
  have hk2 : (flB F.toA).length ≤ 9 := by cases F.toA <;> decide
  have c2 := (flag_lays F.toA) A1 (by omega)
  have hL2 : (A1 ++ flB F.toA).length = A1.length + (flB F.toA).length := List.length_append
  generalize hA2 : A1 ++ flB F.toA = A2 at c2 hL2
  refine lcall 3 cal.f148 c2 rfl rfl rfl rfl (by simp only [bflat_a]) rfl rfl rfl rfl ?_
  refine goK ?_
  simp -dsimp +decide (disch := first | omega | simp +decide only [encrb0]) only [encrb1, ↓brun_b, Nat.reduceAdd, Nat.reduceBEq, rho, ladR, bytR]
  have hk3 : ((iB F.key ++ ((N F.vn ++ iB F.vwho) ++ txB F.val))).length ≤ 200 := by have := N_le F.vn (by omega); have := form_le F.val.length (by omega); simp only [List.length_append, iB_length, txB]; omega
  have c3 := (item_lays F.key F.vwho F.vn F.val (by omega)) A2 (by omega)
  have hL3 : (A2 ++ (iB F.key ++ ((N F.vn ++ iB F.vwho) ++ txB F.val))).length = A2.length + ((iB F.key ++ ((N F.vn ++ iB F.vwho) ++ txB F.val))).length := List.length_append
  generalize hA3 : A2 ++ (iB F.key ++ ((N F.vn ++ iB F.vwho) ++ txB F.val)) = A3 at c3 hL3
  refine lcall 4 cal.f149 c3 rfl rfl rfl rfl (by simp only [bflat_a, IC.flat]) rfl rfl rfl rfl ?_
  refine goK ?_
  simp -dsimp +decide (disch := first | omega | simp +decide only [encrb0]) only [encrb1, ↓brun_b, Nat.reduceAdd, Nat.reduceBEq, rho, ladR, bytR]
  have hE : bytesB F = A3 := by
    have hkk : F.k = 11 := by unfold Frm.k; rw [hk]; rfl
    have h0 : N 11 = form 11 := rfl
    unfold bytesB
    rw [hkk, ← hA3, ← hA2, ← hA1, ← hA, h0]
    simp only [bodyB, List.append_assoc]
  rw [hE]
  refine SQ.runL (rs := [.tmp 2, .tmp 3]) [5] _ _ rfl (And.intro rfl rfl) (by decide) rfl rfl ?_ ?_
  · simp -dsimp +decide (disch := first | omega | simp +decide only [encrb0]) only [encrb2, Nat.reduceAdd]
  · simp -dsimp +decide (disch := first | omega | simp +decide only [encrb0]) only [encrb2, ↓brun_b, Nat.reduceAdd, Nat.reduceBEq]
end Go.Proofs
namespace Go.Proofs
open Go Go.SL
set_option maxRecDepth 100000
set_option maxHeartbeats 8000000 in
theorem enc_12 (F : Frm) (hw : F.wf) (hk : F.kind = 12) (hr : rightB 12 F = true) (hs : frmEq (bare 12 F) F = true) : SCall Try.prog 114 [.agg F.fc.c] [] fun r L => r = .ret (.tup [.slc 0 0 (bytesB F).length, .v (.int .i64 0)]) ∧ L = [bytR (bytesB F)] := by
  have hft := fits_12 F hw hr
  simp only [fits] at hft
  have b_ltx : F.tx.length ≤ 140737488355328 := wfB hw
  have b_lval : F.val.length ≤ 140737488355328 := wfA hw
  have b_ltr : F.tr.length * 8 ≤ 140737488355328 := wfC hw
  have b_lis : F.is.length * 16 ≤ 140737488355328 := wfD hw
  have h1 : F.tr.length < 4611686018427387904 := wfE hw
  have h2 : F.is.length < 4611686018427387904 := wfG hw
  have hright := right_k12 F
  rw [hr] at hright
  have hsame := same143_calls (bare 12 F) F (by show 0 < 4611686018427387904; decide) (by show 0 < 4611686018427387904; decide) h1 h2
  rw [hs] at hsame
  refine enc_head F 246 _ (bodyF_12 F) (of_k12 F hk) hright _ (plainB_12 F) hsame 12 (by decide) 201 meth246 cal.f201 (kind_k12 F) _ fun c hc A hA => ?_
  cases hc
  have hL0 := N_le 12 (by decide)
  rw [hA] at hL0
  refine goC ?_
  simp -dsimp +decide (disch := first | omega | simp +decide only [encrb0]) only [encrb1, ↓brun_b, Nat.reduceAdd, Nat.reduceBEq, fun v => miss214 246 v (by decide), fun v => miss210 246 v (by decide), fun v => miss218 246 v (by decide), fun v => miss226 246 v (by decide), fun v => miss230 246 v (by decide), fun v => miss232 246 v (by decide), fun v => miss235 246 v (by decide), fun v => miss237 246 v (by decide), fun v => miss239 246 v (by decide), fun v => miss241 246 v (by decide), fun v => miss244 246 v (by decide)]
  have hk1 : (iB F.who ++ N F.pn).length ≤ 25 := by have := N_le F.pn (by omega); simp only [List.length_append, iB_length]; omega
  have c1 := (path_lays F.who F.pn (by omega)) A (by omega)
  have hL1 : (A ++ (iB F.who ++ N F.pn)).length = A.length + ((iB F.who ++ N F.pn)).length := List.length_append
  generalize hA1 : A ++ (iB F.who ++ N F.pn) = A1 at c1 hL1
  refine lcall 1 cal.f146 c1 rfl rfl rfl rfl (by simp only [bflat_a, p144_flat]) rfl rfl rfl rfl ?_
  refine goK ?_
  simp -dsimp +decide (disch := first | omega | simp +decide only [encrb0]) only [encrb1, ↓brun_b, Nat.reduceAdd, Nat.reduceBEq, rho, ladR, bytR]
  have hk2 : (flB F.toA).length ≤ 9 := by cases F.toA <;> decide
  have c2 := (flag_lays F.toA) A1 (by omega)
  have hL2 : (A1 ++ flB F.toA).length = A1.length + (flB F.toA).length := List.length_append
  generalize hA2 : A1 ++ flB F.toA = A2 at c2 hL2
  refine lcall 3 cal.f148 c2 rfl rfl rfl rfl (by simp only [bflat_a]) rfl rfl rfl rfl ?_
  refine goK ?_
  simp -dsimp +decide (disch := first | omega | simp +decide only [encrb0]) only [encrb1, ↓brun_b, Nat.reduceAdd, Nat.reduceBEq, rho, ladR, bytR]
  have hk3 : (iB F.key).length ≤ 16 := by simp only [iB_length]; omega
  have c3 := (idLay1 F.key) A2 (by omega)
  have hL3 : (A2 ++ iB F.key).length = A2.length + (iB F.key).length := List.length_append
  generalize hA3 : A2 ++ iB F.key = A3 at c3 hL3
  refine SemOps.frz (d := 282) (idrs [F.key]) rfl rfl rfl (by omega) (fun i r h => ent_id1 h) ?_
  refine lcall 4 cal.f145 c3 rfl rfl rfl rfl (by simp only [bflat_a, idrs_flat]) rfl rfl rfl rfl ?_
  refine goK ?_
  simp -dsimp +decide (disch := first | omega | simp +decide only [encrb0]) only [encrb1, ↓brun_b, Nat.reduceAdd, Nat.reduceBEq, rho, ladR, bytR]
  have hk4 : (nB [F.vn]).length ≤ 9 := by have := nB_len [F.vn] (by intro n h; simp only [List.mem_cons, List.not_mem_nil, or_false] at h; omega); simpa using this
  have c4 := (num_lays [F.vn] (by intro n h; simp only [List.mem_cons, List.not_mem_nil, or_false] at h; omega) (by show 1 < 4611686018427387904; decide)) A3 (by omega)
  have hL4 : (A3 ++ nB [F.vn]).length = A3.length + (nB [F.vn]).length := List.length_append
  generalize hA4 : A3 ++ nB [F.vn] = A4 at c4 hL4
  refine SemOps.frz (d := 288) (lrows [F.vn]) rfl rfl rfl (by omega) (fun i r h => ent_icells h) ?_
  refine lcall 6 cal.f144 c4 rfl rfl rfl rfl (by simp only [bflat_a, lrows_flat]) rfl rfl rfl rfl ?_
  refine goK ?_
  simp -dsimp +decide (disch := first | omega | simp +decide only [encrb0]) only [encrb1, ↓brun_b, Nat.reduceAdd, Nat.reduceBEq, rho, ladR, bytR]
  have hk5 : (iB F.vwho).length ≤ 16 := by simp only [iB_length]; omega
  have c5 := (idLay1 F.vwho) A4 (by omega)
  have hL5 : (A4 ++ iB F.vwho).length = A4.length + (iB F.vwho).length := List.length_append
  generalize hA5 : A4 ++ iB F.vwho = A5 at c5 hL5
  refine SemOps.frz (d := 294) (idrs [F.vwho]) rfl rfl rfl (by omega) (fun i r h => ent_id1 h) ?_
  refine lcall 8 cal.f145 c5 rfl rfl rfl rfl (by simp only [bflat_a, idrs_flat]) rfl rfl rfl rfl ?_
  refine goK ?_
  simp -dsimp +decide (disch := first | omega | simp +decide only [encrb0]) only [encrb1, ↓brun_b, Nat.reduceAdd, Nat.reduceBEq, rho, ladR, bytR]
  have hE : bytesB F = A5 := by
    have hkk : F.k = 12 := by unfold Frm.k; rw [hk]; rfl
    have h0 : N 12 = form 12 := rfl
    unfold bytesB
    rw [hkk, ← hA5, ← hA4, ← hA3, ← hA2, ← hA1, ← hA, h0]
    simp only [bodyB, nB_cons, nB_nil, List.append_assoc, List.append_nil]
  rw [hE]
  refine SQ.runL (rs := [.tmp 2, .tmp 3]) [10] _ _ rfl (And.intro rfl rfl) (by decide) rfl rfl ?_ ?_
  · simp -dsimp +decide (disch := first | omega | simp +decide only [encrb0]) only [encrb2, Nat.reduceAdd]
  · simp -dsimp +decide (disch := first | omega | simp +decide only [encrb0]) only [encrb2, ↓brun_b, Nat.reduceAdd, Nat.reduceBEq]
end Go.Proofs
namespace Go.Proofs
open Go Go.SL
set_option maxRecDepth 100000
def encOk (F : Frm) : Bool := rightB F.k F && frmEq (bare F.k F) F
def encode (F : Frm) : List UInt8 × Int := if encOk F = true then (bytesB F, 0) else ([], 1)
def eres (F : Frm) : SV := .tup [bsl (encode F).1, .v (.int .i64 (encode F).2)]
theorem rightB_kind {F : Frm} (h : rightB F.k F = true) : 1 ≤ F.k ∧ F.k ≤ 12 := by
  by_cases hk : 1 ≤ F.k ∧ F.k ≤ 12
  · exact hk
  · generalize F.k = k at *
    unfold rightB at h
    split at h <;> first | omega | cases h
theorem k_cases {F : Frm} (h : 1 ≤ F.k ∧ F.k ≤ 12) : F.kind = (F.k : Int) := by
  unfold Frm.k at *
  omega
theorem encode_own (F : Frm) (hw : F.wf) (h : encOk F = true) : SCall Try.prog 114 [.agg F.fc.c] [] fun r L => r = .ret (.tup [.slc 0 0 (bytesB F).length, .v (.int .i64 0)]) ∧ L = [bytR (bytesB F)] := by
  unfold encOk at h
  rw [Bool.and_eq_true] at h
  obtain ⟨hr, hs⟩ := h
  have hkk := rightB_kind hr
  have hk := k_cases hkk
  have : F.k = 1 ∨ F.k = 2 ∨ F.k = 3 ∨ F.k = 4 ∨ F.k = 5 ∨ F.k = 6 ∨ F.k = 7 ∨ F.k = 8 ∨ F.k = 9 ∨ F.k = 10 ∨ F.k = 11 ∨ F.k = 12 := by omega
  rcases this with e | e | e | e | e | e | e | e | e | e | e | e <;> rw [e] at hr hs hk
  · exact enc_1 F hw hk hr hs
  · exact enc_2 F hw hk hr hs
  · exact enc_3 F hw hk hr hs
  · exact enc_4 F hw hk hr hs
  · exact enc_5 F hw hk hr hs
  · exact enc_6 F hw hk hr hs
  · exact enc_7 F hw hk hr hs
  · exact enc_8 F hw hk hr hs
  · exact enc_9 F hw hk hr hs
  · exact enc_10 F hw hk hr hs
  · exact enc_11 F hw hk hr hs
  · exact enc_12 F hw hk hr hs
theorem bytes_tell {f : FuncId} {args : List SV} {b : List UInt8} {e : Value} (h : SCall Try.prog f args [] fun r L => r = .ret (.tup [.slc 0 0 b.length, .v e]) ∧ L = [bytR b]) : Pure Try.prog f args (.tup [bsl b, .v e]) := by
  refine SCall.tell [] h ⟨rfl, rfl, rfl, rfl, rfl, rfl, ⟨⟨_, rfl, _, _, rfl, ?_, _, _, rfl, rfl, rfl⟩, trivial⟩, trivial⟩
  exact Ent_row rfl rfl (brows_length b).symm (by omega) fun i r hr => by
    obtain ⟨h1, rfl⟩ := brows_get hr
    rw [Nat.zero_add]
    exact EntL.self rfl
theorem encode_pure (F : Frm) (hw : F.wf) : Pure Try.prog 114 [.agg F.fc.c] (eres F) := by
  unfold eres encode
  by_cases h : encOk F = true
  · rw [if_pos h]
    exact bytes_tell (encode_own F hw h)
  · rw [if_neg h]
    by_cases hkk : 1 ≤ F.k ∧ F.k ≤ 12
    · have hk := k_cases hkk
      have h' : (rightB F.k F && frmEq (bare F.k F) F) = false := by
        unfold encOk at h
        simpa using h
      have : F.k = 1 ∨ F.k = 2 ∨ F.k = 3 ∨ F.k = 4 ∨ F.k = 5 ∨ F.k = 6 ∨ F.k = 7 ∨ F.k = 8 ∨ F.k = 9 ∨ F.k = 10 ∨ F.k = 11 ∨ F.k = 12 := by omega
      rcases this with e | e | e | e | e | e | e | e | e | e | e | e <;> rw [e] at h' hk
      · rcases hr : rightB 1 F with _ | _
        · exact encR_1 F hw hk hr
        · rw [hr, Bool.true_and] at h'
          exact encS_1 F hw hk hr h'
      · rcases hr : rightB 2 F with _ | _
        · exact encR_2 F hw hk hr
        · rw [hr, Bool.true_and] at h'
          exact encS_2 F hw hk hr h'
      · rcases hr : rightB 3 F with _ | _
        · exact encR_3 F hw hk hr
        · rw [hr, Bool.true_and] at h'
          exact encS_3 F hw hk hr h'
      · rcases hr : rightB 4 F with _ | _
        · exact encR_4 F hw hk hr
        · rw [hr, Bool.true_and] at h'
          exact encS_4 F hw hk hr h'
      · rcases hr : rightB 5 F with _ | _
        · exact encR_5 F hw hk hr
        · rw [hr, Bool.true_and] at h'
          exact encS_5 F hw hk hr h'
      · rcases hr : rightB 6 F with _ | _
        · exact encR_6 F hw hk hr
        · rw [hr, Bool.true_and] at h'
          exact encS_6 F hw hk hr h'
      · rcases hr : rightB 7 F with _ | _
        · exact encR_7 F hw hk hr
        · rw [hr, Bool.true_and] at h'
          exact encS_7 F hw hk hr h'
      · rcases hr : rightB 8 F with _ | _
        · exact encR_8 F hw hk hr
        · rw [hr, Bool.true_and] at h'
          exact encS_8 F hw hk hr h'
      · rcases hr : rightB 9 F with _ | _
        · exact encR_9 F hw hk hr
        · rw [hr, Bool.true_and] at h'
          exact encS_9 F hw hk hr h'
      · rcases hr : rightB 10 F with _ | _
        · exact encR_10 F hw hk hr
        · rw [hr, Bool.true_and] at h'
          exact encS_10 F hw hk hr h'
      · rcases hr : rightB 11 F with _ | _
        · exact encR_11 F hw hk hr
        · rw [hr, Bool.true_and] at h'
          exact encS_11 F hw hk hr h'
      · rcases hr : rightB 12 F with _ | _
        · exact encR_12 F hw hk hr
        · rw [hr, Bool.true_and] at h'
          exact encS_12 F hw hk hr h'
    · refine encN F hw ?_
      unfold Frm.k at hkk
      omega
theorem encOk_good (F : Frm) (hw : F.wf) : encOk F = true ↔ good F := by
  unfold encOk good goodB
  rw [Bool.and_eq_true, frmEq_iff]
  constructor
  · rintro ⟨hr, hs⟩
    have hkk := rightB_kind hr
    refine ⟨hkk.1, hkk.2, ?_, hs.symm⟩
    have : F.k = 1 ∨ F.k = 2 ∨ F.k = 3 ∨ F.k = 4 ∨ F.k = 5 ∨ F.k = 6 ∨ F.k = 7 ∨ F.k = 8 ∨ F.k = 9 ∨ F.k = 10 ∨ F.k = 11 ∨ F.k = 12 := by omega
    rcases this with e | e | e | e | e | e | e | e | e | e | e | e <;> rw [e] at hr ⊢
    · exact fits_1 F hw hr
    · exact fits_2 F hw hr
    · exact fits_3 F hw hr
    · exact fits_4 F hw hr
    · exact fits_5 F hw hr
    · exact fits_6 F hw hr
    · exact fits_7 F hw hr
    · exact fits_8 F hw hr
    · exact fits_9 F hw hr
    · exact fits_10 F hw hr
    · exact fits_11 F hw hr
    · exact fits_12 F hw hr
  · rintro ⟨h1, h2, hf, hs⟩
    refine ⟨?_, hs.symm⟩
    have : F.k = 1 ∨ F.k = 2 ∨ F.k = 3 ∨ F.k = 4 ∨ F.k = 5 ∨ F.k = 6 ∨ F.k = 7 ∨ F.k = 8 ∨ F.k = 9 ∨ F.k = 10 ∨ F.k = 11 ∨ F.k = 12 := by omega
    rcases this with e | e | e | e | e | e | e | e | e | e | e | e <;> rw [e] at hf ⊢
    · exact right_of_1 F hf
    · exact right_of_2 F hf
    · exact right_of_3 F hf
    · exact right_of_4 F hf
    · exact right_of_5 F hf
    · exact right_of_6 F hf
    · exact right_of_7 F hf
    · exact right_of_8 F hf
    · exact right_of_9 F hf
    · exact right_of_10 F hf
    · exact right_of_11 F hf
    · exact right_of_12 F hf
end Go.Proofs
