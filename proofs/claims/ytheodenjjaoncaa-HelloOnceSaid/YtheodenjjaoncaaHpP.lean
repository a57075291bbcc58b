/- Contracts of functions that the laws reach, on abstract values, and what they need: no conditions but those that each theorem states. -/
import Derived.Test.YtheodenjjaoncaaRefQ
import Derived.Test.YtheodenjjaoncaaSlY
import Derived.Test.YtheodenjjaoncaaWinP
set_option linter.unusedVariables false
set_option linter.unusedSimpArgs false
set_option linter.defProp false
namespace Go.SL
open Go
end Go.SL
namespace Go.Proofs
open Go Go.SL
set_option maxRecDepth 100000
def hiF (mi mn pi pn : Int) (a : I16) : Frm := { zFrm with kind := 1, fi := mi, fn := mn, ti := pi, tn := pn, a := a }
def akF (mi mn pi pn n : Int) : Frm := { zFrm with kind := 3, fi := mi, fn := mn, ti := pi, tn := pn, n := n }
def daF (mi mn pi pn n : Int) (t : List UInt8) : Frm := { zFrm with kind := 2, fi := mi, fn := mn, ti := pi, tn := pn, n := n, tx := t }
theorem hiF_ent {fz : Nat → Option SB} {ρ : Nat → Nat} (mi mn pi pn : Int) (id : I16) : EntL fz ρ (hiF mi mn pi pn id).fc.c (FC.c { zF with kind := .v (.int .i64 1), fi := .v (.int .i64 mi), fn := .v (.int .i64 mn), ti := .v (.int .i64 pi), tn := .v (.int .i64 pn), a := id }) := by
  unfold hiF zFrm Frm.fc zF
  rw [FC.ent]
  simp only [Ent_self, flat_v, lrows, idrs, bsl, brows_nil, List.map_nil, Ent_nilsl, and_true, and_self]
theorem akF_ent {fz : Nat → Option SB} {ρ : Nat → Nat} (mi mn pi pn n : Int) : EntL fz ρ (akF mi mn pi pn n).fc.c (FC.c { zF with kind := .v (.int .i64 3), fi := .v (.int .i64 mi), fn := .v (.int .i64 mn), ti := .v (.int .i64 pi), tn := .v (.int .i64 pn), n := .v (.int .i64 n) }) := by
  unfold akF zFrm Frm.fc zF
  rw [FC.ent]
  simp only [Ent_self, flat_v, lrows, idrs, bsl, brows_nil, List.map_nil, Ent_nilsl, and_true, and_self]
theorem daF_ent {fz : Nat → Option SB} {ρ : Nat → Nat} (mi mn pi pn n : Int) (t : List UInt8) : EntL fz ρ (daF mi mn pi pn n t).fc.c (FC.c { zF with kind := .v (.int .i64 2), fi := .v (.int .i64 mi), fn := .v (.int .i64 mn), ti := .v (.int .i64 pi), tn := .v (.int .i64 pn), n := .v (.int .i64 n), tx := bsl t }) := by
  unfold daF zFrm Frm.fc zF
  rw [FC.ent]
  simp only [Ent_self, flat_v, flat_rsl, flatR_brows, lrows, idrs, bsl, brows_nil, List.map_nil, Ent_nilsl, and_true, and_self]
theorem frows_nil : frows [] = [] := rfl
theorem frows1_ent {fz : Nat → Option SB} {ρ : Nat → Nat} {F : Frm} {c : List SV} (h : EntL fz ρ F.fc.c c) (i : Nat) (r : List SV) (hr : (frows [F])[i]? = some r) : EntL fz ρ r c := by
  match i, hr with
  | 0, hr =>
    have hr : some F.fc.c = some r := hr
    injection hr with hr
    rw [← hr]; exact h
end Go.Proofs
namespace Go.Proofs
open Go Go.SL
set_option maxRecDepth 100000
end Go.Proofs
namespace Go.Proofs
open Go Go.SL
set_option maxRecDepth 100000
def daL (mi mn pi pn : Int) (base : Nat) (ts : List (List UInt8)) : List Frm := (List.range ts.length).map fun e => daF mi mn pi pn ((base + e : Nat) : Int) (ts.getD e [])
theorem daL_len (mi mn pi pn : Int) (base : Nat) (ts : List (List UInt8)) : (frows (daL mi mn pi pn base ts)).length = ts.length := by simp [frows, daL]
theorem daL_ent {fz : Nat → Option SB} {ρ : Nat → Nat} (mi mn pi pn : Int) (base : Nat) (ts : List (List UInt8)) (i : Nat) (r : List SV) (hr : (frows (daL mi mn pi pn base ts))[i]? = some r) : EntL fz ρ r (dfam mi mn pi pn base ts (0 + i)) := by
  have hi : i < ts.length := by
    rcases Nat.lt_or_ge i ts.length with h | h
    · exact h
    · rw [List.getElem?_eq_none (by rw [daL_len]; exact h)] at hr; cases hr
  simp only [frows, daL, List.map_map, List.getElem?_map, List.getElem?_range hi, Option.map_some, Function.comp_apply] at hr
  injection hr with hr
  rw [← hr, Nat.zero_add]
  exact daF_ent _ _ _ _ _ _
def hppc0 :=
  (And.intro (And.intro (And.intro (And.intro @AD.flat @AK.flat) (And.intro @CP.flat (And.intro @DR.flat @EC.flat))) (And.intro (And.intro @GT.flat @H1.flat) (And.intro @I16.flat (And.intro @IC.flat @PE.flat)))) (And.intro (And.intro (And.intro @PK.flat @PT.flat) (And.intro @RE.flat (And.intro @SU.flat @brow_flat))) (And.intro (And.intro @frm_flat @idrs_flat) (And.intro @lrows_flat (And.intro @trow_flat @trows_flat)))))
def hppc1 :=
  (And.intro (And.intro @EC.c_length @FC.c_length) (And.intro @H1.c_length (And.intro @I16.c_length @trow_len)))
def hppb0 :=
  (And.intro (And.intro (And.intro (And.intro (And.intro hppc0 hppc1) (And.intro @AD.c_length @AD.one)) (And.intro (And.intro @AK.c_length @AK.one) (And.intro @CP.c_length (And.intro @CP.one @DR.c_length)))) (And.intro (And.intro (And.intro @DR.one @EC.one) (And.intro @FC.flat_eq (And.intro @FC.one_eq @GT.c_length))) (And.intro (And.intro @GT.one @H1.one) (And.intro @I16.one (And.intro @IC.c_length @IC.one))))) (And.intro (And.intro (And.intro (And.intro @PE.c_length @PE.one) (And.intro @PK.c_length (And.intro @PK.one @PT.c_length))) (And.intro (And.intro @PT.one @RE.c_length) (And.intro @RE.one (And.intro @SU.c_length @SU.one)))) (And.intro (And.intro (And.intro @bdset_a @fh_flat) (And.intro @fk_flat (And.intro @trows_length @zD.eq_1))) (And.intro (And.intro @zE.eq_1 @zF.eq_1) (And.intro @zH.eq_1 (And.intro @zK.eq_1 @zR.eq_1))))))
def hppc2 :=
  (And.intro (And.intro (And.intro (And.intro (And.intro (And.intro @EC.at_op @EC.at_up) (And.intro @EC.at_w @EC.ent)) (And.intro (And.intro @EC.part @EC.part_id) (And.intro @EC.part_mine @EC.part_peer))) (And.intro (And.intro (And.intro @EC.part_pid @EC.renc) (And.intro @EC.set_all @EC.set_mine)) (And.intro (And.intro @EC.set_op @EC.set_peer) (And.intro @EC.set_pid @EC.set_up)))) (And.intro (And.intro (And.intro (And.intro @EC.set_w @FC.part) (And.intro @FC.set_all @H1.part)) (And.intro (And.intro @H1.part_a @H1.part_from) (And.intro @H1.part_to @H1.set_all))) (And.intro (And.intro (And.intro @I16.part @Int.cast_ofNat_Int) (And.intro @List.replicate_succ.{0} @List.replicate_zero.{0})) (And.intro (And.intro @SKren_row @after_mk) (And.intro @al135 @al151))))) (And.intro (And.intro (And.intro (And.intro (And.intro @al162 @al210) (And.intro @al214 @al218)) (And.intro (And.intro @al23 @build135z) (And.intro @build151a @build151h))) (And.intro (And.intro (And.intro @build151z @build162z) (And.intro @build214 @build23z)) (And.intro (And.intro @cellAt_succ @cellAt_zero) (And.intro @mergeL_done @mergeL_own)))) (And.intro (And.intro (And.intro (And.intro @mergeL_row @mk210) (And.intro @mk214 @mk218)) (And.intro (And.intro @renL_cons @renL_flat) (And.intro @renL_nil @ren_tup))) (And.intro (And.intro (And.intro @sop_assert @sp02) (And.intro @sp05 @sp22)) (And.intro (And.intro @splice_0 @splice_c) (And.intro @splice_s @trow_cell))))))
def hppc3 :=
  (And.intro (And.intro @FC.at_kind (And.intro @FC.at_n @FC.at_op)) (And.intro (And.intro @FC.at_tx @FC.part_a) (And.intro @FC.part_from @FC.part_to)))
def hppc4 :=
  (And.intro (And.intro (And.intro (And.intro (And.intro (And.intro @beq_self_eq_true.{0} @brun_a) (And.intro @cond_false.{1} @cond_true.{1})) (And.intro (And.intro @tab.a121 @tab.a124) (And.intro @tab.a135 (And.intro @tab.a151 @tab.a162)))) (And.intro (And.intro (And.intro @tab.a2 @tab.a214) (And.intro @tab.a23 (And.intro @tab.a3 @tab.a35))) (And.intro (And.intro @tab.a4 @tab.a5) (And.intro @tab.a50 (And.intro @tab.f135x0 @tab.f135x1))))) (And.intro (And.intro (And.intro (And.intro @tab.f151x0 @tab.f151x13) (And.intro @tab.f151x3 @tab.f151x5)) (And.intro (And.intro @tab.f151x6 @tab.f151x7) (And.intro @tab.f162x0 (And.intro @tab.f162x1 @tab.f162x2)))) (And.intro (And.intro (And.intro @tab.f162x3 @tab.f162x4) (And.intro @tab.f204x0 (And.intro @tab.f204x1 @tab.f204x2))) (And.intro (And.intro @tab.f204x3 @tab.f204x4) (And.intro @tab.f204x5 (And.intro @tab.f204x6 @tab.f210x0)))))) (And.intro (And.intro (And.intro (And.intro (And.intro @tab.f210x1 @tab.f210x2) (And.intro @tab.f210x3 @tab.f214x0)) (And.intro (And.intro @tab.f214x1 @tab.f214x2) (And.intro @tab.f218x0 (And.intro @tab.f218x1 @tab.f218x2)))) (And.intro (And.intro (And.intro @tab.s121 @tab.s124) (And.intro @tab.s135 (And.intro @tab.s151 @tab.s162))) (And.intro (And.intro @tab.s2 @tab.s204) (And.intro @tab.s210 (And.intro @tab.s214 @tab.s218))))) (And.intro (And.intro (And.intro (And.intro @tab.s23 @tab.s3) (And.intro @tab.s35 @tab.s4)) (And.intro (And.intro @tab.s5 @tab.s50) (And.intro @tab.u121 (And.intro @tab.u124 @tab.u135)))) (And.intro (And.intro (And.intro @tab.u2 @tab.u210) (And.intro @tab.u214 (And.intro @tab.u218 @tab.u23))) (And.intro (And.intro @tab.u3 @tab.u35) (And.intro @tab.u4 (And.intro @tab.u5 @tab.u50)))))))
def hppb1 :=
  (And.intro (And.intro hppc2 (And.intro hppc1 hppc3)) (And.intro hppc4 (And.intro @fh_flat @fk_flat)))
def hppb2 :=
  (And.intro hppc0 (And.intro @fh_flat @fk_flat))
def hppb4 :=
  (And.intro (And.intro hppc2 (And.intro hppc1 hppc3)) (And.intro (And.intro hppc4 @fh_flat) (And.intro @fk_flat @hit210)))
def hppb5 :=
  (And.intro (And.intro (And.intro @List.length_cons.{0} @List.length_nil.{0}) (And.intro @Nat.zero_add @roL_in)) (And.intro (And.intro @roL_nil @roL_none) (And.intro @roL_row @ro_mk)))
def hppb6 :=
  (And.intro (And.intro (And.intro hppc2 hppc1) (And.intro hppc4 (And.intro @bwk_a @eq_self.{1}))) (And.intro (And.intro @fh_flat @fk_flat) (And.intro @forall_const.{1} (And.intro @implies_true.{0} @implies_true.{1}))))
def hppb7 :=
  (And.intro (And.intro hppc2 (And.intro hppc1 hppc3)) (And.intro (And.intro hppc4 @bs124) (And.intro @fh_flat @fk_flat)))
def hppb8 :=
  (And.intro (And.intro (And.intro hppc2 hppc1) (And.intro hppc3 (And.intro hppc4 @bwk_a))) (And.intro (And.intro @eq_self.{1} (And.intro @fh_flat @fk_flat)) (And.intro @forall_const.{1} (And.intro @implies_true.{0} @implies_true.{1}))))
set_option maxHeartbeats 4000000 in
theorem hear_dataK (F : Frm) (hk : F.kind = 2) (hl : F.tx.length ≤ 140737488355328) (hn : I64 F.n) (id pid : I16) (op : Bool) (mi mn pi pn nxi nxn base : Int) (got : Nat) (g2 : Int) (ts : List (List UInt8)) (hg : (got : Int) < 4611686018427387904)
    (hm1 : (decide (F.ti = mi) && decide (F.tn = mn)) = true) (hm2 : (decide (F.fi = pi) && decide (F.fn = pn)) = true) (cm : Bool) (hcm : decide (F.n = (got : Int) + 1) = cm) (hg2 : g2 = bif cm then (got : Int) + 1 else got) :
    SCall Try.prog 106 [.ptr 0 0 0, .agg F.fc.c, .agg [.v (.int .i64 nxi), .v (.int .i64 nxn)]] [some (.row ⟨39, 1, true, 204, fun _ => EC.c ⟨id, .v (.bool true), .v (.bool op), .v (.int .i64 mi), .v (.int .i64 mn), .v (.int .i64 pi), .v (.int .i64 pn), pid, .ptr 1 0 0⟩⟩), some (.row ⟨3, 1, true, 197, fun _ => [.v (.int .i64 base), .slc 2 0 ts.length, .v (.int .i64 (got : Int))]⟩), some (.row ⟨1, ts.length, false, 35, trow ts⟩)]
      fun r L => r = .ret (.agg [.v (.bool false), .v (.bool (!op)), (bif cm then bsl F.tx else .v (.slice none 0 0)), .v (.bool cm), .slc 3 0 1]) ∧ L = [some (.row ⟨39, 1, true, 204, fun _ => EC.c ⟨id, .v (.bool true), .v (.bool true), .v (.int .i64 mi), .v (.int .i64 mn), .v (.int .i64 pi), .v (.int .i64 pn), pid, .ptr 1 0 0⟩⟩), some (.row ⟨3, 1, true, 197, fun _ => [.v (.int .i64 base), .slc 2 0 ts.length, .v (.int .i64 g2)]⟩), none, some (.row ⟨95, 1, true, 151, fun _ => FC.c { zF with kind := .v (.int .i64 3), fi := .v (.int .i64 mi), fn := .v (.int .i64 mn), ti := .v (.int .i64 pi), tn := .v (.int .i64 pn), n := .v (.int .i64 g2) }⟩)] := by
  have ho := of_data F hk hl
  have hc := came_calls base F.n got ts.length (trow ts) hn.1 hn.2 hg
  have hh := ack_calls id pid true true mi mn pi pn base g2 ts
  simp only [Frm.fc] at ho ⊢
  have e : ((if F.n = (got : Int) + 1 then got + 1 else got : Nat) : Int) = g2 := by
    rw [hg2, ← hcm]
    by_cases h : F.n = (got : Int) + 1 <;> simp [h]
  rw [hcm, e] at hc
  clear hcm hg2 e
  cases cm
  all_goals
    simp only [cond_true, cond_false]
    refine SCall.mk (fn := Try.f106) (by kernel_rfl) rfl (Nat.le_of_ble_eq_true (by kernel_rfl)) ?_
    refine Sem.go (k := 1000) ?_
    simp -dsimp (decide := true) (disch := first | omega | simp (decide := true) only [hppb0]) only [hppb1, ↓brun_b, envOf, reduceIte, Nat.reduceEqDiff, Nat.reduceAdd, Nat.reduceSub, Nat.reduceMul, Nat.reduceBEq, Nat.reduceLeDiff, Nat.reduceLT, Int.reduceToNat, rho]
    refine SemOps.callq (k := 1000) cal.f119 (ho) rfl rfl rfl rfl (by simp only [bflat_a, hppb2]) (by simp only [bflat_a, hppb2]) (by simp -dsimp (decide := true) (disch := first | omega | simp (decide := true) only [hppb0]) only [hppc4, ↓brun_b, envOf, reduceIte, Nat.reduceEqDiff, Nat.reduceAdd, Nat.reduceSub, Nat.reduceMul, Nat.reduceBEq, Nat.reduceLeDiff, Nat.reduceLT, Int.reduceToNat]) ?_
    simp -dsimp (decide := true) (disch := first | omega | simp (decide := true) only [hppb0]) only [hppb4, ↓brun_b, envOf, reduceIte, Nat.reduceEqDiff, Nat.reduceAdd, Nat.reduceSub, Nat.reduceMul, Nat.reduceBEq, Nat.reduceLeDiff, Nat.reduceLT, Int.reduceToNat, rho, fun v => miss214 210 v (by decide)]
    refine Sem.draw' (by kernel_rfl) (.one 0 (.one 1 (.one 2 (.one 3 (.one 4 (.one 5 (.one 6 (.one 7 (.one 8 (.one 9 (.one 10 (.one 11 (.one 12 (.one 13 (.one 14 (.one 15 .done)))))))))))))))) [] (by kernel_rfl) (fun G ff hG hf => ?_)
    simp (decide := true) only [hppb5, Nat.reduceAdd] at hG ⊢
    simp -dsimp (decide := true) (disch := first | omega | simp (decide := true) only [hppb0]) only [hppb1, ↓brun_b, envOf, reduceIte, Nat.reduceEqDiff, Nat.reduceAdd, Nat.reduceSub, Nat.reduceMul, Nat.reduceBEq, Nat.reduceLeDiff, Nat.reduceLT, Int.reduceToNat, rho, sBin_agg .eql 23 _ _ _ (I16.cellsEq _ _), sBin_agg .eql 135 _ _ _ (ceq135 _ _ _ _), sBin_agg .neq 23 _ _ _ (I16.cellsEq _ _), sBin_agg .neq 135 _ _ _ (ceq135 _ _ _ _), hG, hm1, hm2]
    refine And.intro (flat135 _ _ _ _) (And.intro (flat135 _ _ _ _) ?_)
    refine hf _ (Sem.go (k := 1000) ?_)
    simp (decide := true) only [back_mk, backL_in, backL_row, backL_none, backL_nil, Nat.zero_add, Nat.reduceAdd]
    simp -dsimp (decide := true) (disch := first | omega | simp (decide := true) only [hppb0]) only [hppb1, ↓brun_b, envOf, reduceIte, Nat.reduceEqDiff, Nat.reduceAdd, Nat.reduceSub, Nat.reduceMul, Nat.reduceBEq, Nat.reduceLeDiff, Nat.reduceLT, Int.reduceToNat, rho]
    refine Sem.draw' (by kernel_rfl) (.one 0 (.one 1 (.one 2 (.one 3 (.one 4 (.one 5 (.alt 6 .done .non))))))) [1] (by kernel_rfl) (fun G ff hG hf => ?_)
    simp (decide := true) only [hppb5, Nat.reduceAdd] at hG ⊢
    simp -dsimp (decide := true) (disch := first | omega | simp (decide := true) only [hppb0]) only [hppb1, ↓brun_b, envOf, reduceIte, Nat.reduceEqDiff, Nat.reduceAdd, Nat.reduceSub, Nat.reduceMul, Nat.reduceBEq, Nat.reduceLeDiff, Nat.reduceLT, Int.reduceToNat, rho, hG]
    refine OpSem.callw [1, 2] cal.f54 (hc) rfl rfl (by simp -dsimp (decide := true) (disch := first | omega | simp (decide := true) only [hppb0]) only [hppb6, ↓brun_b, envOf, reduceIte, Nat.reduceEqDiff, Nat.reduceAdd, Nat.reduceSub, Nat.reduceMul, Nat.reduceBEq, Nat.reduceLeDiff, Nat.reduceLT, Int.reduceToNat, rho, frz1, ↓reduceIte]) rfl (by simp -dsimp (decide := true) (disch := first | omega | simp (decide := true) only [hppb0]) only [hppb6, ↓brun_b, envOf, reduceIte, Nat.reduceEqDiff, Nat.reduceAdd, Nat.reduceSub, Nat.reduceMul, Nat.reduceBEq, Nat.reduceLeDiff, Nat.reduceLT, Int.reduceToNat, rho, frz1, ↓reduceIte]) (by simp -dsimp (decide := true) (disch := first | omega | simp (decide := true) only [hppb0]) only [hppc4, ↓brun_b, envOf, reduceIte, Nat.reduceEqDiff, Nat.reduceAdd, Nat.reduceSub, Nat.reduceMul, Nat.reduceBEq, Nat.reduceLeDiff, Nat.reduceLT, Int.reduceToNat]) ?_
    simp -dsimp (decide := true) (disch := first | omega | simp (decide := true) only [hppb0]) only [hppb1, ↓brun_b, envOf, reduceIte, Nat.reduceEqDiff, Nat.reduceAdd, Nat.reduceSub, Nat.reduceMul, Nat.reduceBEq, Nat.reduceLeDiff, Nat.reduceLT, Int.reduceToNat, rho, hG]
    refine hf _ (Sem.go (k := 1000) ?_)
    simp (decide := true) only [back_mk, backL_in, backL_row, backL_none, backL_nil, Nat.zero_add, Nat.reduceAdd]
    simp -dsimp (decide := true) (disch := first | omega | simp (decide := true) only [hppb0]) only [hppb1, ↓brun_b, envOf, reduceIte, Nat.reduceEqDiff, Nat.reduceAdd, Nat.reduceSub, Nat.reduceMul, Nat.reduceBEq, Nat.reduceLeDiff, Nat.reduceLT, Int.reduceToNat, rho]
    refine Sem.draw' (by kernel_rfl) (.one 0 (.one 2 (.alt 1 (.alt 3 (.alt 4 (.alt 5 (.one 6 (.alt 7 .done .non)) .non) .non) .non) (.alt 3 (.alt 1 (.alt 4 (.alt 5 (.one 6 (.alt 7 .done .non)) .non) .non) (.alt 4 (.alt 1 (.alt 5 (.one 6 (.alt 7 .done .non)) .non) .non) .non)) .non)))) [7] (by kernel_rfl) (fun G ff hG hf => ?_)
    simp (decide := true) only [hppb5, Nat.reduceAdd] at hG ⊢
    simp -dsimp (decide := true) (disch := first | omega | simp (decide := true) only [hppb0]) only [hppb1, ↓brun_b, envOf, reduceIte, Nat.reduceEqDiff, Nat.reduceAdd, Nat.reduceSub, Nat.reduceMul, Nat.reduceBEq, Nat.reduceLeDiff, Nat.reduceLT, Int.reduceToNat, rho, hG]
    refine And.intro ?_ ?_
    all_goals
      refine OpSem.callw [0, 1, 2] cal.f141 (hh) rfl rfl (by simp -dsimp (decide := true) (disch := first | omega | simp (decide := true) only [hppb0]) only [hppb6, ↓brun_b, envOf, reduceIte, Nat.reduceEqDiff, Nat.reduceAdd, Nat.reduceSub, Nat.reduceMul, Nat.reduceBEq, Nat.reduceLeDiff, Nat.reduceLT, Int.reduceToNat, rho, frz1, ↓reduceIte]) rfl (by simp -dsimp (decide := true) (disch := first | omega | simp (decide := true) only [hppb0]) only [hppb6, ↓brun_b, envOf, reduceIte, Nat.reduceEqDiff, Nat.reduceAdd, Nat.reduceSub, Nat.reduceMul, Nat.reduceBEq, Nat.reduceLeDiff, Nat.reduceLT, Int.reduceToNat, rho, frz1, ↓reduceIte]) (by simp -dsimp (decide := true) (disch := first | omega | simp (decide := true) only [hppb0]) only [hppc4, ↓brun_b, envOf, reduceIte, Nat.reduceEqDiff, Nat.reduceAdd, Nat.reduceSub, Nat.reduceMul, Nat.reduceBEq, Nat.reduceLeDiff, Nat.reduceLT, Int.reduceToNat]) ?_
      simp -dsimp (decide := true) (disch := first | omega | simp (decide := true) only [hppb0]) only [hppb7, ↓brun_b, envOf, reduceIte, Nat.reduceEqDiff, Nat.reduceAdd, Nat.reduceSub, Nat.reduceMul, Nat.reduceBEq, Nat.reduceLeDiff, Nat.reduceLT, Int.reduceToNat, rho, hG, sapp1_sl el151, Nat.le_refl]
      (repeat' refine And.intro ?_ ?_)
      all_goals
        refine hf _ (Sem.go (k := 1000) ?_)
        simp (decide := true) only [back_mk, backL_in, backL_row, backL_none, backL_nil, Nat.zero_add, Nat.reduceAdd]
        simp -dsimp (decide := true) (disch := first | omega | simp (decide := true) only [hppb0]) only [hppb1, ↓brun_b, envOf, reduceIte, Nat.reduceEqDiff, Nat.reduceAdd, Nat.reduceSub, Nat.reduceMul, Nat.reduceBEq, Nat.reduceLeDiff, Nat.reduceLT, Int.reduceToNat, rho]
        refine SQ.runL (rs := [.cell 6 162]) [0, 1, 2, 10] _ _ rfl (And.intro rfl rfl) (by decide) rfl rfl ?_ ?_
        · simp -dsimp (decide := true) (disch := first | omega | simp (decide := true) only [hppb0]) only [hppb8, ↓brun_b, envOf, reduceIte, Nat.reduceEqDiff, Nat.reduceAdd, Nat.reduceSub, Nat.reduceMul, Nat.reduceBEq, Nat.reduceLeDiff, Nat.reduceLT, Int.reduceToNat, rho, frz1, ↓reduceIte]
          intro e he
          obtain rfl : e = 0 := by omega
          first | exact appF_el _ 0 he (fk_flat _ _ _ _ _) | exact one124 _ 0 he (fk_flat _ _ _ _ _)
        · simp -dsimp (decide := true) (disch := first | omega | simp (decide := true) only [hppb0]) only [hppb8, ↓brun_b, envOf, reduceIte, Nat.reduceEqDiff, Nat.reduceAdd, Nat.reduceSub, Nat.reduceMul, Nat.reduceBEq, Nat.reduceLeDiff, Nat.reduceLT, Int.reduceToNat, rho, frz1, ↓reduceIte]
end Go.Proofs
