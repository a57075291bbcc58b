/- Contracts of functions that the laws reach, on abstract values, and what they need: no conditions but those that each theorem states. -/
import Derived.Test.YtheodenjjaoncaaHelQ
set_option linter.unusedVariables false
set_option linter.unusedSimpArgs false
set_option linter.defProp false
namespace Go.Proofs
open Go Go.SL
set_option maxRecDepth 100000
end Go.Proofs
namespace Go.SL
open Go
theorem flatR_getD : ∀ (rows : List (List SV)) (i : Nat) (r : List SV), SV.flatR rows = true → rows[i]? = some r → SV.flatL r = true
  | [], i, r, _, h => by simp at h
  | x :: rows, 0, r, hf, h => by
    simp only [flatR_cons, Bool.and_eq_true] at hf
    simp only [List.getElem?_cons_zero, Option.some.injEq] at h
    exact h ▸ hf.1
  | x :: rows, i + 1, r, hf, h => by
    simp only [flatR_cons, Bool.and_eq_true] at hf
    exact flatR_getD rows i r hf.2 (by simpa using h)
theorem app_row {fz : Nat → Option SB} {ρ : Nat → Nat} (rows : List (List SV)) (hf : SV.flatR rows = true) (i : Nat) (r : List SV) (h : rows[i]? = some r) : EntL fz ρ r (if 0 + i < 0 then [] else rows.getD (0 + i - 0) []) := by
  have e : (if 0 + i < 0 then [] else rows.getD (0 + i - 0) []) = r := by
    simp [List.getD_eq_getElem?_getD, h]
  rw [e]
  exact EntL.self (flatR_getD rows i r hf h)
end Go.SL
namespace Go.Proofs
open Go Go.SL
set_option maxRecDepth 100000
theorem bl210 (fi fn ti tn n : Int) (b k : Nat) : sBuild Try.prog 210 [(0, .agg [.v (.int .i64 fi), .v (.int .i64 fn)]), (1, .agg [.v (.int .i64 ti), .v (.int .i64 tn)]), (2, .v (.int .i64 n)), (3, .slc b 0 k)] = some ⟨.agg [.v (.int .i64 fi), .v (.int .i64 fn), .v (.int .i64 ti), .v (.int .i64 tn), .v (.int .i64 n), .slc b 0 k], {}, True⟩ := by
  rw [sBuild_eq, tab.z210, tab.l210]; rfl
def bodpc0 :=
  (aI (aI (aI @FC.flat_eq @FC.one_eq) (aI @H1.one (aI @I16.one @IC.one))) (aI (aI @bdset_a @zD.eq_1) (aI @zE.eq_1 (aI @zH.eq_1 @zK.eq_1))))
def bodpb0 :=
  (aI (aI (aI bodpc0 (aI @FC.c_length @H1.c_length)) (aI @I16.c_length (aI @I16.flat @IC.c_length))) (aI (aI @IC.flat (aI @idrs_flat @idrs_len)) (aI @lrows_flat (aI @lrows_length @zF.eq_1))))
def bodpc1 :=
  (aI (aI (aI (aI @EC.at_op (aI @EC.ent @FC.part)) (aI (aI @FC.set_all @H1.part_from) (aI @H1.part_to @Int.cast_ofNat_Int))) (aI (aI (aI @List.replicate_succ.{0} @List.replicate_zero.{0}) (aI @SKren_row @after_mk)) (aI (aI @al151 @al210) (aI @build151z @cellAt_succ)))) (aI (aI (aI @cellAt_zero (aI @mergeL_done @mergeL_row)) (aI (aI @mk210 @mk218) (aI @renL_cons @renL_flat))) (aI (aI (aI @renL_nil @ren_tup) (aI @sop_assert @sp02)) (aI (aI @sp22 @splice_0) (aI @splice_c @splice_s)))))
def bodpc2 :=
  (aI (aI (aI (aI @FC.at_is @FC.at_kind) (aI @FC.at_n @FC.at_op)) (aI (aI @FC.at_toA @FC.at_tr) (aI @FC.at_ttl @FC.at_tx))) (aI (aI (aI @FC.part_P @FC.part_a) (aI @FC.part_b @FC.part_from)) (aI (aI @FC.part_it @FC.part_key) (aI @FC.part_to @FC.part_ver))))
def bodpc3 :=
  (aI (aI (aI (aI @beq_self_eq_true.{0} @brun_a) (aI @cond_false.{1} @cond_true.{1})) (aI (aI @tab.a147 @tab.a149) (aI @tab.a2 @tab.a23))) (aI (aI (aI @tab.a35 @tab.f149x2) (aI @tab.s147 @tab.s149)) (aI (aI @tab.s2 @tab.s23) (aI @tab.s35 @tab.u35))))
def bodpc4 :=
  (aI (aI (aI (aI (aI @tab.a135 @tab.a144) (aI @tab.a145 (aI @tab.a151 @tab.a3))) (aI (aI @tab.a4 (aI @tab.a79 @tab.f210x0)) (aI @tab.f210x1 (aI @tab.f210x2 @tab.f210x3)))) (aI (aI (aI @tab.f214x0 @tab.f214x1) (aI @tab.s135 (aI @tab.s144 @tab.s145))) (aI (aI @tab.s151 (aI @tab.s210 @tab.s226)) (aI @tab.s230 (aI @tab.s232 @tab.s235))))) (aI (aI (aI (aI @tab.s237 @tab.s239) (aI @tab.s241 (aI @tab.s244 @tab.s246))) (aI (aI @tab.s3 (aI @tab.s4 @tab.s79)) (aI @tab.u145 (aI @tab.u210 @tab.u214)))) (aI (aI (aI @tab.u218 @tab.u226) (aI @tab.u230 (aI @tab.u232 @tab.u235))) (aI (aI @tab.u237 (aI @tab.u239 @tab.u241)) (aI @tab.u244 (aI @tab.u246 @tab.u79))))))
def bodpc5 :=
  (aI (aI @tab.f237x0 (aI @tab.f237x1 @tab.f237x2)) (aI @tab.f237x3 (aI @tab.f237x4 @tab.f237x5)))
def bodpc6 :=
  (aI (aI @tab.f241x0 (aI @tab.f241x1 @tab.f241x2)) (aI (aI @tab.f241x3 @tab.f241x4) (aI @tab.f241x5 @tab.f241x6)))
def bodpb1 :=
  (aI (aI (aI (aI (aI bodpc1 bodpc2) (aI bodpc3 (aI bodpc4 bodpc5))) (aI (aI bodpc6 (aI @FC.c_length @H1.c_length)) (aI @I16.c_length (aI @bl218 @tab.f149x0)))) (aI (aI (aI @tab.f149x1 @tab.f151x0) (aI @tab.f151x1 (aI @tab.f151x10 @tab.f151x11))) (aI (aI @tab.f151x12 (aI @tab.f151x13 @tab.f151x2)) (aI @tab.f151x3 (aI @tab.f151x4 @tab.f151x5))))) (aI (aI (aI (aI @tab.f151x6 @tab.f151x7) (aI @tab.f151x8 (aI @tab.f151x9 @tab.f226x0))) (aI (aI @tab.f226x1 (aI @tab.f226x2 @tab.f226x3)) (aI @tab.f230x0 (aI @tab.f232x0 @tab.f232x1)))) (aI (aI (aI @tab.f235x0 (aI @tab.f235x1 @tab.f235x2)) (aI @tab.f239x0 (aI @tab.f239x1 @tab.f244x0))) (aI (aI @tab.f244x1 (aI @tab.f244x2 @tab.f246x0)) (aI @tab.f246x1 (aI @tab.f246x2 @tab.f246x3))))))
def bodpb2 :=
  (aI (aI (aI (aI (aI bodpc1 (aI bodpc3 bodpc4)) (aI bodpc5 (aI bodpc6 @FC.c_length))) (aI (aI @H1.c_length (aI @I16.c_length @bwk_a)) (aI @eq_self.{1} (aI @forall_const.{1} @implies_true.{0})))) (aI (aI (aI @implies_true.{1} (aI @tab.f149x0 @tab.f149x1)) (aI @tab.f151x0 (aI @tab.f151x1 @tab.f151x10))) (aI (aI @tab.f151x11 (aI @tab.f151x12 @tab.f151x13)) (aI @tab.f151x2 (aI @tab.f151x3 @tab.f151x4))))) (aI (aI (aI (aI @tab.f151x5 (aI @tab.f151x6 @tab.f151x7)) (aI @tab.f151x8 (aI @tab.f151x9 @tab.f226x0))) (aI (aI @tab.f226x1 (aI @tab.f226x2 @tab.f226x3)) (aI @tab.f230x0 (aI @tab.f232x0 @tab.f232x1)))) (aI (aI (aI @tab.f235x0 (aI @tab.f235x1 @tab.f235x2)) (aI @tab.f239x0 (aI @tab.f239x1 @tab.f244x0))) (aI (aI @tab.f244x1 (aI @tab.f244x2 @tab.f246x0)) (aI @tab.f246x1 (aI @tab.f246x2 @tab.f246x3))))))
theorem of_ack (F : Frm) (hk : F.kind = 3) : Pure Try.prog 119 [.agg F.fc.c] (.tup [.ifc 218 (.agg [.v (.int .i64 F.fi), .v (.int .i64 F.fn), .v (.int .i64 F.ti), .v (.int .i64 F.tn), .v (.int .i64 F.n)]), .v (.bool true)]) := by
  refine SCall.mk (fn := Try.f119) (by kernel_rfl) rfl (Nat.le_of_ble_eq_true (by kernel_rfl)) ?_
  refine goC ?_
  simp -dsimp +decide (disch := first | omega | simp +decide only [bodpb0]) only [bodpb1, ↓brun_b, envOf, Nat.reduceBEq, Frm.fc, hk]
  refine SQ.answer (rs := [.tmp 2, .tmp 3]) rfl rfl ?_
  simp -dsimp +decide (disch := first | omega | simp +decide only [bodpb0]) only [bodpb2, ↓brun_b, Nat.reduceBEq, rho]
def bodpb3 :=
  (aI (aI (aI (aI (aI bodpc1 bodpc2) (aI bodpc3 (aI bodpc4 bodpc5))) (aI (aI bodpc6 (aI @FC.c_length @H1.c_length)) (aI @I16.c_length (aI @tab.f149x0 @tab.f149x1)))) (aI (aI (aI @tab.f151x0 @tab.f151x1) (aI @tab.f151x10 (aI @tab.f151x11 @tab.f151x12))) (aI (aI @tab.f151x13 (aI @tab.f151x2 @tab.f151x3)) (aI @tab.f151x4 (aI @tab.f151x5 @tab.f151x6))))) (aI (aI (aI (aI @tab.f151x7 @tab.f151x8) (aI @tab.f151x9 (aI @tab.f226x0 @tab.f226x1))) (aI (aI @tab.f226x2 (aI @tab.f226x3 @tab.f230x0)) (aI @tab.f232x0 (aI @tab.f232x1 @tab.f235x0)))) (aI (aI (aI @tab.f235x1 @tab.f235x2) (aI @tab.f239x0 (aI @tab.f239x1 @tab.f244x0))) (aI (aI @tab.f244x1 (aI @tab.f244x2 @tab.f246x0)) (aI @tab.f246x1 (aI @tab.f246x2 @tab.f246x3))))))
def bodpb4 :=
  (aI (aI (aI @List.length_cons.{0} @List.length_nil.{0}) (aI @Nat.zero_add @roL_in)) (aI (aI @roL_nil @roL_none) (aI @roL_row @ro_mk)))
def bodpb5 :=
  (aI (aI (aI (aI (aI bodpc1 bodpc2) (aI bodpc3 (aI bodpc4 bodpc5))) (aI (aI bodpc6 (aI @FC.c_length @H1.c_length)) (aI @I16.c_length (aI @bl210 @tab.f149x0)))) (aI (aI (aI @tab.f149x1 @tab.f151x0) (aI @tab.f151x1 (aI @tab.f151x10 @tab.f151x11))) (aI (aI @tab.f151x12 (aI @tab.f151x13 @tab.f151x2)) (aI @tab.f151x3 (aI @tab.f151x4 @tab.f151x5))))) (aI (aI (aI (aI @tab.f151x6 @tab.f151x7) (aI @tab.f151x8 (aI @tab.f151x9 @tab.f226x0))) (aI (aI @tab.f226x1 (aI @tab.f226x2 @tab.f226x3)) (aI @tab.f230x0 (aI @tab.f232x0 @tab.f232x1)))) (aI (aI (aI @tab.f235x0 (aI @tab.f235x1 @tab.f235x2)) (aI @tab.f239x0 (aI @tab.f239x1 @tab.f244x0))) (aI (aI @tab.f244x1 (aI @tab.f244x2 @tab.f246x0)) (aI @tab.f246x1 (aI @tab.f246x2 @tab.f246x3))))))
theorem of_data (F : Frm) (hk : F.kind = 2) (h2 : F.tx.length ≤ 140737488355328) : Pure Try.prog 119 [.agg F.fc.c] (.tup [.ifc 210 (.agg [.v (.int .i64 F.fi), .v (.int .i64 F.fn), .v (.int .i64 F.ti), .v (.int .i64 F.tn), .v (.int .i64 F.n), bsl F.tx]), .v (.bool true)]) := by
  refine SCall.mk (fn := Try.f119) (by kernel_rfl) rfl (Nat.le_of_ble_eq_true (by kernel_rfl)) ?_
  refine goC ?_
  simp -dsimp +decide (disch := first | omega | simp +decide only [bodpb0]) only [bodpb3, ↓brun_b, envOf, Nat.reduceBEq, Frm.fc, hk]
  refine Sem.draw' (by kernel_rfl) (.one 0 (.one 1 (.one 2 (.one 3 (.one 4 (.one 5 (.one 6 (.one 7 (.alt 8 (.one 9 (.one 10 (.one 11 (.one 12 .done)))) .non))))))))) [] (by kernel_rfl) (fun G ff hG hf => ?_)
  simp +decide only [bodpb4] at hG ⊢
  simp -dsimp +decide (disch := first | omega | simp +decide only [bodpb0]) only [bodpb5, ↓brun_b, Nat.reduceAdd, Nat.reduceBEq, hG, sapp1_sl el5, h2]
  refine hf _ (Sem.go (k := 1000) ?_)
  simp +decide only [back_mk, backL_row, backL_nil, Nat.zero_add]
  simp -dsimp +decide (disch := first | omega | simp +decide only [bodpb0]) only [bodpb3]
  refine SQ.answer (rs := [.tmp 2, .tmp 3]) rfl rfl ?_
  simp -dsimp +decide (disch := first | omega | simp +decide only [bodpb0]) only [bodpb2, ↓brun_b, reduceIte, Nat.reduceAdd, Nat.reduceBEq, rho, ↓reduceIte]
  exact Ent_row rfl rfl (brows_length _).symm (by omega) fun i r hr => app_row _ (flatR_brows _) i r hr
end Go.Proofs
namespace Go.SL
open Go
structure SU where
  who : I16
  pn : SV
  a : I16
  b : I16
  tr : SV
def SU.c (x : SU) : List SV := (x.who.c ++ (x.pn :: (x.a.c ++ (x.b.c ++ (x.tr :: [])))))
theorem SU.c_length (x : SU) : x.c.length = 50 := by simp [SU.c, I16.c_length]
theorem SU.at_pn (x : SU) : cellAt x.c 16 = x.pn := cellAt_get _ _ _ (by simp [SU.c, I16.c_length])
theorem SU.part_a (x : SU) : spart true x.c 17 16 = .agg x.a.c := by simp [spart, SU.c, List.drop_append, I16.c_length, List.drop_of_length_le]
theorem SU.set_a (x : SU) (v : I16) : splice x.c 17 v.c = SU.c { x with a := v } := by simp [splice, SU.c, List.drop_append, List.take_append, I16.c_length, List.take_of_length_le, List.drop_of_length_le]
theorem SU.part_b (x : SU) : spart true x.c 33 16 = .agg x.b.c := by simp [spart, SU.c, List.drop_append, I16.c_length, List.drop_of_length_le]
theorem SU.set_b (x : SU) (v : I16) : splice x.c 33 v.c = SU.c { x with b := v } := by simp [splice, SU.c, List.drop_append, List.take_append, I16.c_length, List.take_of_length_le, List.drop_of_length_le]
theorem SU.at_tr (x : SU) : cellAt x.c 49 = x.tr := cellAt_get _ _ _ (by simp [SU.c, I16.c_length])
theorem SU.set_tr (x : SU) (v : SV) : splice x.c 49 [v] = SU.c { x with tr := v } := by simp [splice, SU.c, List.take_append, I16.c_length, List.take_of_length_le, List.drop_of_length_le]
theorem SU.part_P (x : SU) : spart true x.c 0 17 = .agg ((x.who.c ++ [x.pn])) := by simp [spart, SU.c, List.drop_append, List.take_append, I16.c_length, List.take_of_length_le]
theorem SU.set_P (x : SU) (u_who : I16) (u_pn : SV) : splice x.c 0 ((u_who.c ++ [u_pn])) = SU.c { x with who := u_who, pn := u_pn } := by simp [splice, SU.c, List.drop_append, List.take_append, I16.c_length, List.drop_of_length_le]
theorem SU.part (x : SU) : spart true x.c 0 50 = .agg x.c := by simp [spart, List.take_of_length_le, SU.c_length]
theorem SU.set_all (x y : SU) : splice x.c 0 y.c = y.c := splice_all _ _ (by rw [SU.c_length, SU.c_length])
theorem SU.one (x : SU) : x.c.all SV.one = (x.pn.one && x.tr.one) := by simp [SU.c, List.all_append, I16.one]
theorem SU.flat (x : SU) : SV.flatL x.c = (x.pn.flat && x.tr.flat) := by simp [SU.c, flatL_cons, flatL_app, I16.flat, flatL_nil]
theorem SU.renc (ρ : Nat → Nat) (x : SU) : SV.renL ρ x.c = SU.c ⟨x.who, SV.ren ρ x.pn, x.a, x.b, SV.ren ρ x.tr⟩ := by simp [SU.c, renL_cons, renL_append, renL_flat _ _ (I16.flat _), renL_nil]
theorem SU.ent {fz : Nat → Option SB} {ρ : Nat → Nat} (who : I16) (pn : SV) (a : I16) (b : I16) (tr : SV) (pn' : SV) (tr' : SV) : EntL fz ρ (SU.c ⟨who, pn, a, b, tr⟩) (SU.c ⟨who, pn', a, b, tr'⟩) = (Ent fz ρ pn pn' ∧ Ent fz ρ tr tr') := by
  simp only [SU.c, EntL_pre _ _ _ (I16.flat _), EntL_cons, EntL_nil, and_true]
structure DR where
  who : I16
  pn : SV
def DR.c (x : DR) : List SV := (x.who.c ++ (x.pn :: []))
theorem DR.c_length (x : DR) : x.c.length = 17 := by simp [DR.c, I16.c_length]
theorem DR.at_pn (x : DR) : cellAt x.c 16 = x.pn := cellAt_get _ _ _ (by simp [DR.c, I16.c_length])
theorem DR.part_P (x : DR) : spart true x.c 0 17 = .agg ((x.who.c ++ [x.pn])) := by simp [spart, DR.c, List.drop_append, I16.c_length, List.take_of_length_le]
theorem DR.set_P (x : DR) (u_who : I16) (u_pn : SV) : splice x.c 0 ((u_who.c ++ [u_pn])) = DR.c { x with who := u_who, pn := u_pn } := by simp [splice, DR.c, List.take_append, I16.c_length, List.drop_of_length_le]
theorem DR.set_all (x y : DR) : splice x.c 0 y.c = y.c := splice_all _ _ (by rw [DR.c_length, DR.c_length])
theorem DR.one (x : DR) : x.c.all SV.one = (x.pn.one) := by simp [DR.c, List.all_append, I16.one]
theorem DR.flat (x : DR) : SV.flatL x.c = (x.pn.flat) := by simp [DR.c, flatL_cons, flatL_app, I16.flat, flatL_nil]
theorem DR.renc (ρ : Nat → Nat) (x : DR) : SV.renL ρ x.c = DR.c ⟨x.who, SV.ren ρ x.pn⟩ := by simp [DR.c, renL_cons, renL_append, renL_flat _ _ (I16.flat _), renL_nil]
theorem DR.ent {fz : Nat → Option SB} {ρ : Nat → Nat} (who : I16) (pn : SV) (pn' : SV) : EntL fz ρ (DR.c ⟨who, pn⟩) (DR.c ⟨who, pn'⟩) = (Ent fz ρ pn pn') := by
  simp only [DR.c, EntL_pre _ _ _ (I16.flat _), EntL_cons, EntL_nil, and_true]
structure PT where
  who : I16
  pn : SV
  toA : SV
def PT.c (x : PT) : List SV := (x.who.c ++ (x.pn :: (x.toA :: [])))
theorem PT.c_length (x : PT) : x.c.length = 18 := by simp [PT.c, I16.c_length]
theorem PT.at_pn (x : PT) : cellAt x.c 16 = x.pn := cellAt_get _ _ _ (by simp [PT.c, I16.c_length])
theorem PT.at_toA (x : PT) : cellAt x.c 17 = x.toA := cellAt_get _ _ _ (by simp [PT.c, I16.c_length])
theorem PT.set_toA (x : PT) (v : SV) : splice x.c 17 [v] = PT.c { x with toA := v } := by simp [splice, PT.c, List.take_append, I16.c_length, List.take_of_length_le, List.drop_of_length_le]
theorem PT.part_P (x : PT) : spart true x.c 0 17 = .agg ((x.who.c ++ [x.pn])) := by simp [spart, PT.c, List.drop_append, List.take_append, I16.c_length, List.take_of_length_le]
theorem PT.set_P (x : PT) (u_who : I16) (u_pn : SV) : splice x.c 0 ((u_who.c ++ [u_pn])) = PT.c { x with who := u_who, pn := u_pn } := by simp [splice, PT.c, List.drop_append, List.take_append, I16.c_length, List.drop_of_length_le]
theorem PT.part (x : PT) : spart true x.c 0 18 = .agg x.c := by simp [spart, List.take_of_length_le, PT.c_length]
theorem PT.set_all (x y : PT) : splice x.c 0 y.c = y.c := splice_all _ _ (by rw [PT.c_length, PT.c_length])
theorem PT.one (x : PT) : x.c.all SV.one = (x.pn.one && x.toA.one) := by simp [PT.c, List.all_append, I16.one]
theorem PT.flat (x : PT) : SV.flatL x.c = (x.pn.flat && x.toA.flat) := by simp [PT.c, flatL_cons, flatL_app, I16.flat, flatL_nil]
theorem PT.renc (ρ : Nat → Nat) (x : PT) : SV.renL ρ x.c = PT.c ⟨x.who, SV.ren ρ x.pn, SV.ren ρ x.toA⟩ := by simp [PT.c, renL_cons, renL_append, renL_flat _ _ (I16.flat _), renL_nil]
theorem PT.ent {fz : Nat → Option SB} {ρ : Nat → Nat} (who : I16) (pn : SV) (toA : SV) (pn' : SV) (toA' : SV) : EntL fz ρ (PT.c ⟨who, pn, toA⟩) (PT.c ⟨who, pn', toA'⟩) = (Ent fz ρ pn pn' ∧ Ent fz ρ toA toA') := by
  simp only [PT.c, EntL_pre _ _ _ (I16.flat _), EntL_cons, EntL_nil, and_true]
structure PE where
  who : I16
  pn : SV
  toA : SV
  is : SV
def PE.c (x : PE) : List SV := (x.who.c ++ (x.pn :: (x.toA :: (x.is :: []))))
theorem PE.c_length (x : PE) : x.c.length = 19 := by simp [PE.c, I16.c_length]
theorem PE.at_pn (x : PE) : cellAt x.c 16 = x.pn := cellAt_get _ _ _ (by simp [PE.c, I16.c_length])
theorem PE.at_toA (x : PE) : cellAt x.c 17 = x.toA := cellAt_get _ _ _ (by simp [PE.c, I16.c_length])
theorem PE.set_toA (x : PE) (v : SV) : splice x.c 17 [v] = PE.c { x with toA := v } := by simp [splice, PE.c, List.drop_append, List.take_append, I16.c_length, List.take_of_length_le, List.drop_of_length_le]
theorem PE.at_is (x : PE) : cellAt x.c 18 = x.is := cellAt_get _ _ _ (by simp [PE.c, I16.c_length])
theorem PE.set_is (x : PE) (v : SV) : splice x.c 18 [v] = PE.c { x with is := v } := by simp [splice, PE.c, List.take_append, I16.c_length, List.take_of_length_le, List.drop_of_length_le]
theorem PE.part_P (x : PE) : spart true x.c 0 17 = .agg ((x.who.c ++ [x.pn])) := by simp [spart, PE.c, List.drop_append, List.take_append, I16.c_length, List.take_of_length_le]
theorem PE.set_P (x : PE) (u_who : I16) (u_pn : SV) : splice x.c 0 ((u_who.c ++ [u_pn])) = PE.c { x with who := u_who, pn := u_pn } := by simp [splice, PE.c, List.drop_append, List.take_append, I16.c_length, List.drop_of_length_le]
theorem PE.part (x : PE) : spart true x.c 0 19 = .agg x.c := by simp [spart, List.take_of_length_le, PE.c_length]
theorem PE.set_all (x y : PE) : splice x.c 0 y.c = y.c := splice_all _ _ (by rw [PE.c_length, PE.c_length])
theorem PE.one (x : PE) : x.c.all SV.one = (x.pn.one && x.toA.one && x.is.one) := by simp [PE.c, List.all_append, I16.one, Bool.and_assoc]
theorem PE.flat (x : PE) : SV.flatL x.c = (x.pn.flat && x.toA.flat && x.is.flat) := by simp [PE.c, flatL_cons, flatL_app, I16.flat, flatL_nil, Bool.and_assoc]
theorem PE.renc (ρ : Nat → Nat) (x : PE) : SV.renL ρ x.c = PE.c ⟨x.who, SV.ren ρ x.pn, SV.ren ρ x.toA, SV.ren ρ x.is⟩ := by simp [PE.c, renL_cons, renL_append, renL_flat _ _ (I16.flat _), renL_nil]
theorem PE.ent {fz : Nat → Option SB} {ρ : Nat → Nat} (who : I16) (pn : SV) (toA : SV) (is : SV) (pn' : SV) (toA' : SV) (is' : SV) : EntL fz ρ (PE.c ⟨who, pn, toA, is⟩) (PE.c ⟨who, pn', toA', is'⟩) = (Ent fz ρ pn pn' ∧ Ent fz ρ toA toA' ∧ Ent fz ρ is is') := by
  simp only [PE.c, EntL_pre _ _ _ (I16.flat _), EntL_cons, EntL_nil, and_true]
structure AK where
  a : I16
  b : I16
  op : SV
  who : I16
  pn : SV
  toA : SV
  tr : SV
def AK.c (x : AK) : List SV := (x.a.c ++ (x.b.c ++ (x.op :: (x.who.c ++ (x.pn :: (x.toA :: (x.tr :: [])))))))
theorem AK.c_length (x : AK) : x.c.length = 52 := by simp [AK.c, I16.c_length]
theorem AK.part_a (x : AK) : spart true x.c 0 16 = .agg x.a.c := by simp [spart, AK.c, List.drop_append, I16.c_length]
theorem AK.set_a (x : AK) (v : I16) : splice x.c 0 v.c = AK.c { x with a := v } := by simp [splice, AK.c, List.take_append, I16.c_length]
theorem AK.part_b (x : AK) : spart true x.c 16 16 = .agg x.b.c := by simp [spart, AK.c, I16.c_length]
theorem AK.set_b (x : AK) (v : I16) : splice x.c 16 v.c = AK.c { x with b := v } := by simp [splice, AK.c, List.drop_append, I16.c_length, List.drop_of_length_le]
theorem AK.at_op (x : AK) : cellAt x.c 32 = x.op := cellAt_get _ _ _ (by simp [AK.c, I16.c_length])
theorem AK.set_op (x : AK) (v : SV) : splice x.c 32 [v] = AK.c { x with op := v } := by simp [splice, AK.c, List.drop_append, List.take_append, I16.c_length, List.take_of_length_le, List.drop_of_length_le]
theorem AK.at_pn (x : AK) : cellAt x.c 49 = x.pn := cellAt_get _ _ _ (by simp [AK.c, I16.c_length])
theorem AK.at_toA (x : AK) : cellAt x.c 50 = x.toA := cellAt_get _ _ _ (by simp [AK.c, I16.c_length])
theorem AK.set_toA (x : AK) (v : SV) : splice x.c 50 [v] = AK.c { x with toA := v } := by simp [splice, AK.c, List.drop_append, List.take_append, I16.c_length, List.take_of_length_le, List.drop_of_length_le]
theorem AK.at_tr (x : AK) : cellAt x.c 51 = x.tr := cellAt_get _ _ _ (by simp [AK.c, I16.c_length])
theorem AK.set_tr (x : AK) (v : SV) : splice x.c 51 [v] = AK.c { x with tr := v } := by simp [splice, AK.c, List.take_append, I16.c_length, List.take_of_length_le, List.drop_of_length_le]
theorem AK.part_P (x : AK) : spart true x.c 33 17 = .agg ((x.who.c ++ [x.pn])) := by simp [spart, AK.c, List.drop_append, List.take_append, I16.c_length, List.take_of_length_le, List.drop_of_length_le]
theorem AK.set_P (x : AK) (u_who : I16) (u_pn : SV) : splice x.c 33 ((u_who.c ++ [u_pn])) = AK.c { x with who := u_who, pn := u_pn } := by simp [splice, AK.c, List.drop_append, List.take_append, I16.c_length, List.take_of_length_le, List.drop_of_length_le]
theorem AK.part (x : AK) : spart true x.c 0 52 = .agg x.c := by simp [spart, List.take_of_length_le, AK.c_length]
theorem AK.set_all (x y : AK) : splice x.c 0 y.c = y.c := splice_all _ _ (by rw [AK.c_length, AK.c_length])
theorem AK.one (x : AK) : x.c.all SV.one = (x.op.one && x.pn.one && x.toA.one && x.tr.one) := by simp [AK.c, List.all_append, I16.one, Bool.and_assoc]
theorem AK.flat (x : AK) : SV.flatL x.c = (x.op.flat && x.pn.flat && x.toA.flat && x.tr.flat) := by simp [AK.c, flatL_cons, flatL_app, I16.flat, flatL_nil, Bool.and_assoc]
theorem AK.renc (ρ : Nat → Nat) (x : AK) : SV.renL ρ x.c = AK.c ⟨x.a, x.b, SV.ren ρ x.op, x.who, SV.ren ρ x.pn, SV.ren ρ x.toA, SV.ren ρ x.tr⟩ := by simp [AK.c, renL_cons, renL_append, renL_flat _ _ (I16.flat _), renL_nil]
theorem AK.ent {fz : Nat → Option SB} {ρ : Nat → Nat} (a : I16) (b : I16) (op : SV) (who : I16) (pn : SV) (toA : SV) (tr : SV) (op' : SV) (pn' : SV) (toA' : SV) (tr' : SV) : EntL fz ρ (AK.c ⟨a, b, op, who, pn, toA, tr⟩) (AK.c ⟨a, b, op', who, pn', toA', tr'⟩) = (Ent fz ρ op op' ∧ Ent fz ρ pn pn' ∧ Ent fz ρ toA toA' ∧ Ent fz ρ tr tr') := by
  simp only [AK.c, EntL_pre _ _ _ (I16.flat _), EntL_cons, EntL_nil, and_true]
structure AD where
  a : I16
  n : SV
def AD.c (x : AD) : List SV := (x.a.c ++ (x.n :: []))
theorem AD.c_length (x : AD) : x.c.length = 17 := by simp [AD.c, I16.c_length]
theorem AD.part_a (x : AD) : spart true x.c 0 16 = .agg x.a.c := by simp [spart, AD.c, List.drop_append, I16.c_length]
theorem AD.set_a (x : AD) (v : I16) : splice x.c 0 v.c = AD.c { x with a := v } := by simp [splice, AD.c, List.take_append, I16.c_length]
theorem AD.at_n (x : AD) : cellAt x.c 16 = x.n := cellAt_get _ _ _ (by simp [AD.c, I16.c_length])
theorem AD.set_n (x : AD) (v : SV) : splice x.c 16 [v] = AD.c { x with n := v } := by simp [splice, AD.c, I16.c_length, List.drop_of_length_le]
theorem AD.part (x : AD) : spart true x.c 0 17 = .agg x.c := by simp [spart, List.take_of_length_le, AD.c_length]
theorem AD.set_all (x y : AD) : splice x.c 0 y.c = y.c := splice_all _ _ (by rw [AD.c_length, AD.c_length])
theorem AD.one (x : AD) : x.c.all SV.one = (x.n.one) := by simp [AD.c, List.all_append, I16.one]
theorem AD.flat (x : AD) : SV.flatL x.c = (x.n.flat) := by simp [AD.c, flatL_cons, flatL_app, I16.flat, flatL_nil]
theorem AD.renc (ρ : Nat → Nat) (x : AD) : SV.renL ρ x.c = AD.c ⟨x.a, SV.ren ρ x.n⟩ := by simp [AD.c, renL_cons, renL_append, renL_flat _ _ (I16.flat _), renL_nil]
theorem AD.ent {fz : Nat → Option SB} {ρ : Nat → Nat} (a : I16) (n : SV) (n' : SV) : EntL fz ρ (AD.c ⟨a, n⟩) (AD.c ⟨a, n'⟩) = (Ent fz ρ n n') := by
  simp only [AD.c, EntL_pre _ _ _ (I16.flat _), EntL_cons, EntL_nil, and_true]
structure PK where
  a : I16
  b : I16
  n : SV
  op : SV
  ttl : SV
  key : I16
  vn : SV
  vwho : I16
  val : SV
  tx : SV
def PK.c (x : PK) : List SV := (x.a.c ++ (x.b.c ++ (x.n :: (x.op :: (x.ttl :: (x.key.c ++ (x.vn :: (x.vwho.c ++ (x.val :: (x.tx :: []))))))))))
theorem PK.c_length (x : PK) : x.c.length = 70 := by simp [PK.c, I16.c_length]
theorem PK.part_a (x : PK) : spart true x.c 0 16 = .agg x.a.c := by simp [spart, PK.c, List.drop_append, I16.c_length]
theorem PK.set_a (x : PK) (v : I16) : splice x.c 0 v.c = PK.c { x with a := v } := by simp [splice, PK.c, List.take_append, I16.c_length]
theorem PK.part_b (x : PK) : spart true x.c 16 16 = .agg x.b.c := by simp [spart, PK.c, I16.c_length]
theorem PK.set_b (x : PK) (v : I16) : splice x.c 16 v.c = PK.c { x with b := v } := by simp [splice, PK.c, List.drop_append, I16.c_length, List.drop_of_length_le]
theorem PK.at_n (x : PK) : cellAt x.c 32 = x.n := cellAt_get _ _ _ (by simp [PK.c, I16.c_length])
theorem PK.set_n (x : PK) (v : SV) : splice x.c 32 [v] = PK.c { x with n := v } := by simp [splice, PK.c, List.drop_append, List.take_append, I16.c_length, List.take_of_length_le, List.drop_of_length_le]
theorem PK.at_op (x : PK) : cellAt x.c 33 = x.op := cellAt_get _ _ _ (by simp [PK.c, I16.c_length])
theorem PK.set_op (x : PK) (v : SV) : splice x.c 33 [v] = PK.c { x with op := v } := by simp [splice, PK.c, List.drop_append, List.take_append, I16.c_length, List.take_of_length_le, List.drop_of_length_le]
theorem PK.at_ttl (x : PK) : cellAt x.c 34 = x.ttl := cellAt_get _ _ _ (by simp [PK.c, I16.c_length])
theorem PK.set_ttl (x : PK) (v : SV) : splice x.c 34 [v] = PK.c { x with ttl := v } := by simp [splice, PK.c, List.drop_append, List.take_append, I16.c_length, List.take_of_length_le, List.drop_of_length_le]
theorem PK.part_key (x : PK) : spart true x.c 35 16 = .agg x.key.c := by simp [spart, PK.c, List.drop_append, I16.c_length, List.drop_of_length_le]
theorem PK.set_key (x : PK) (v : I16) : splice x.c 35 v.c = PK.c { x with key := v } := by simp [splice, PK.c, List.drop_append, List.take_append, I16.c_length, List.take_of_length_le, List.drop_of_length_le]
theorem PK.at_vn (x : PK) : cellAt x.c 51 = x.vn := cellAt_get _ _ _ (by simp [PK.c, I16.c_length])
theorem PK.part_vwho (x : PK) : spart true x.c 52 16 = .agg x.vwho.c := by simp [spart, PK.c, List.drop_append, I16.c_length, List.drop_of_length_le]
theorem PK.at_val (x : PK) : cellAt x.c 68 = x.val := cellAt_get _ _ _ (by simp [PK.c, I16.c_length])
theorem PK.set_val (x : PK) (v : SV) : splice x.c 68 [v] = PK.c { x with val := v } := by simp [splice, PK.c, List.drop_append, List.take_append, I16.c_length, List.take_of_length_le, List.drop_of_length_le]
theorem PK.at_tx (x : PK) : cellAt x.c 69 = x.tx := cellAt_get _ _ _ (by simp [PK.c, I16.c_length])
theorem PK.set_tx (x : PK) (v : SV) : splice x.c 69 [v] = PK.c { x with tx := v } := by simp [splice, PK.c, List.take_append, I16.c_length, List.take_of_length_le, List.drop_of_length_le]
theorem PK.part_item (x : PK) : spart true x.c 35 34 = .agg ((x.key.c ++ (x.vn :: (x.vwho.c ++ [x.val])))) := by simp [spart, PK.c, List.drop_append, List.take_append, I16.c_length, List.take_of_length_le, List.drop_of_length_le]
theorem PK.set_item (x : PK) (u_key : I16) (u_vn : SV) (u_vwho : I16) (u_val : SV) : splice x.c 35 ((u_key.c ++ (u_vn :: (u_vwho.c ++ [u_val])))) = PK.c { x with key := u_key, vn := u_vn, vwho := u_vwho, val := u_val } := by simp [splice, PK.c, List.drop_append, List.take_append, I16.c_length, List.take_of_length_le, List.drop_of_length_le]
theorem PK.part (x : PK) : spart true x.c 0 70 = .agg x.c := by simp [spart, List.take_of_length_le, PK.c_length]
theorem PK.set_all (x y : PK) : splice x.c 0 y.c = y.c := splice_all _ _ (by rw [PK.c_length, PK.c_length])
theorem PK.one (x : PK) : x.c.all SV.one = (x.n.one && x.op.one && x.ttl.one && x.vn.one && x.val.one && x.tx.one) := by simp [PK.c, List.all_append, I16.one, Bool.and_assoc]
theorem PK.flat (x : PK) : SV.flatL x.c = (x.n.flat && x.op.flat && x.ttl.flat && x.vn.flat && x.val.flat && x.tx.flat) := by simp [PK.c, flatL_cons, flatL_app, I16.flat, flatL_nil, Bool.and_assoc]
theorem PK.renc (ρ : Nat → Nat) (x : PK) : SV.renL ρ x.c = PK.c ⟨x.a, x.b, SV.ren ρ x.n, SV.ren ρ x.op, SV.ren ρ x.ttl, x.key, SV.ren ρ x.vn, x.vwho, SV.ren ρ x.val, SV.ren ρ x.tx⟩ := by simp [PK.c, renL_cons, renL_append, renL_flat _ _ (I16.flat _), renL_nil]
theorem PK.ent {fz : Nat → Option SB} {ρ : Nat → Nat} (a : I16) (b : I16) (n : SV) (op : SV) (ttl : SV) (key : I16) (vn : SV) (vwho : I16) (val : SV) (tx : SV) (n' : SV) (op' : SV) (ttl' : SV) (vn' : SV) (val' : SV) (tx' : SV) : EntL fz ρ (PK.c ⟨a, b, n, op, ttl, key, vn, vwho, val, tx⟩) (PK.c ⟨a, b, n', op', ttl', key, vn', vwho, val', tx'⟩) = (Ent fz ρ n n' ∧ Ent fz ρ op op' ∧ Ent fz ρ ttl ttl' ∧ Ent fz ρ vn vn' ∧ Ent fz ρ val val' ∧ Ent fz ρ tx tx') := by
  simp only [PK.c, EntL_pre _ _ _ (I16.flat _), EntL_cons, EntL_nil, and_true]
structure CP where
  who : I16
  pn : SV
  toA : SV
  key : I16
  vn : SV
  vwho : I16
  val : SV
def CP.c (x : CP) : List SV := (x.who.c ++ (x.pn :: (x.toA :: (x.key.c ++ (x.vn :: (x.vwho.c ++ (x.val :: [])))))))
theorem CP.c_length (x : CP) : x.c.length = 52 := by simp [CP.c, I16.c_length]
theorem CP.at_pn (x : CP) : cellAt x.c 16 = x.pn := cellAt_get _ _ _ (by simp [CP.c, I16.c_length])
theorem CP.at_toA (x : CP) : cellAt x.c 17 = x.toA := cellAt_get _ _ _ (by simp [CP.c, I16.c_length])
theorem CP.set_toA (x : CP) (v : SV) : splice x.c 17 [v] = CP.c { x with toA := v } := by simp [splice, CP.c, List.drop_append, List.take_append, I16.c_length, List.take_of_length_le, List.drop_of_length_le]
theorem CP.part_key (x : CP) : spart true x.c 18 16 = .agg x.key.c := by simp [spart, CP.c, List.drop_append, I16.c_length, List.drop_of_length_le]
theorem CP.set_key (x : CP) (v : I16) : splice x.c 18 v.c = CP.c { x with key := v } := by simp [splice, CP.c, List.drop_append, List.take_append, I16.c_length, List.take_of_length_le, List.drop_of_length_le]
theorem CP.at_vn (x : CP) : cellAt x.c 34 = x.vn := cellAt_get _ _ _ (by simp [CP.c, I16.c_length])
theorem CP.part_vwho (x : CP) : spart true x.c 35 16 = .agg x.vwho.c := by simp [spart, CP.c, List.drop_append, I16.c_length, List.drop_of_length_le]
theorem CP.at_val (x : CP) : cellAt x.c 51 = x.val := cellAt_get _ _ _ (by simp [CP.c, I16.c_length])
theorem CP.set_val (x : CP) (v : SV) : splice x.c 51 [v] = CP.c { x with val := v } := by simp [splice, CP.c, List.take_append, I16.c_length, List.take_of_length_le, List.drop_of_length_le]
theorem CP.part_P (x : CP) : spart true x.c 0 17 = .agg ((x.who.c ++ [x.pn])) := by simp [spart, CP.c, List.drop_append, List.take_append, I16.c_length, List.take_of_length_le]
theorem CP.set_P (x : CP) (u_who : I16) (u_pn : SV) : splice x.c 0 ((u_who.c ++ [u_pn])) = CP.c { x with who := u_who, pn := u_pn } := by simp [splice, CP.c, List.drop_append, List.take_append, I16.c_length, List.drop_of_length_le]
theorem CP.part_item (x : CP) : spart true x.c 18 34 = .agg ((x.key.c ++ (x.vn :: (x.vwho.c ++ [x.val])))) := by simp [spart, CP.c, List.drop_append, I16.c_length, List.take_of_length_le, List.drop_of_length_le]
theorem CP.set_item (x : CP) (u_key : I16) (u_vn : SV) (u_vwho : I16) (u_val : SV) : splice x.c 18 ((u_key.c ++ (u_vn :: (u_vwho.c ++ [u_val])))) = CP.c { x with key := u_key, vn := u_vn, vwho := u_vwho, val := u_val } := by simp [splice, CP.c, List.take_append, I16.c_length, List.take_of_length_le, List.drop_of_length_le]
theorem CP.part (x : CP) : spart true x.c 0 52 = .agg x.c := by simp [spart, List.take_of_length_le, CP.c_length]
theorem CP.set_all (x y : CP) : splice x.c 0 y.c = y.c := splice_all _ _ (by rw [CP.c_length, CP.c_length])
theorem CP.one (x : CP) : x.c.all SV.one = (x.pn.one && x.toA.one && x.vn.one && x.val.one) := by simp [CP.c, List.all_append, I16.one, Bool.and_assoc]
theorem CP.flat (x : CP) : SV.flatL x.c = (x.pn.flat && x.toA.flat && x.vn.flat && x.val.flat) := by simp [CP.c, flatL_cons, flatL_app, I16.flat, flatL_nil, Bool.and_assoc]
theorem CP.renc (ρ : Nat → Nat) (x : CP) : SV.renL ρ x.c = CP.c ⟨x.who, SV.ren ρ x.pn, SV.ren ρ x.toA, x.key, SV.ren ρ x.vn, x.vwho, SV.ren ρ x.val⟩ := by simp [CP.c, renL_cons, renL_append, renL_flat _ _ (I16.flat _), renL_nil]
theorem CP.ent {fz : Nat → Option SB} {ρ : Nat → Nat} (who : I16) (pn : SV) (toA : SV) (key : I16) (vn : SV) (vwho : I16) (val : SV) (pn' : SV) (toA' : SV) (vn' : SV) (val' : SV) : EntL fz ρ (CP.c ⟨who, pn, toA, key, vn, vwho, val⟩) (CP.c ⟨who, pn', toA', key, vn', vwho, val'⟩) = (Ent fz ρ pn pn' ∧ Ent fz ρ toA toA' ∧ Ent fz ρ vn vn' ∧ Ent fz ρ val val') := by
  simp only [CP.c, EntL_pre _ _ _ (I16.flat _), EntL_cons, EntL_nil, and_true]
structure GT where
  who : I16
  pn : SV
  toA : SV
  key : I16
  vn : SV
  vwho : I16
def GT.c (x : GT) : List SV := (x.who.c ++ (x.pn :: (x.toA :: (x.key.c ++ (x.vn :: (x.vwho.c ++ []))))))
theorem GT.c_length (x : GT) : x.c.length = 51 := by simp [GT.c, I16.c_length]
theorem GT.at_pn (x : GT) : cellAt x.c 16 = x.pn := cellAt_get _ _ _ (by simp [GT.c, I16.c_length])
theorem GT.at_toA (x : GT) : cellAt x.c 17 = x.toA := cellAt_get _ _ _ (by simp [GT.c, I16.c_length])
theorem GT.set_toA (x : GT) (v : SV) : splice x.c 17 [v] = GT.c { x with toA := v } := by simp [splice, GT.c, List.drop_append, List.take_append, I16.c_length, List.take_of_length_le, List.drop_of_length_le]
theorem GT.part_key (x : GT) : spart true x.c 18 16 = .agg x.key.c := by simp [spart, GT.c, List.drop_append, I16.c_length, List.drop_of_length_le]
theorem GT.set_key (x : GT) (v : I16) : splice x.c 18 v.c = GT.c { x with key := v } := by simp [splice, GT.c, List.drop_append, List.take_append, I16.c_length, List.take_of_length_le, List.drop_of_length_le]
theorem GT.at_vn (x : GT) : cellAt x.c 34 = x.vn := cellAt_get _ _ _ (by simp [GT.c, I16.c_length])
theorem GT.part_vwho (x : GT) : spart true x.c 35 16 = .agg x.vwho.c := by simp [spart, GT.c, List.drop_append, I16.c_length, List.take_of_length_le, List.drop_of_length_le]
theorem GT.part_P (x : GT) : spart true x.c 0 17 = .agg ((x.who.c ++ [x.pn])) := by simp [spart, GT.c, List.drop_append, List.take_append, I16.c_length, List.take_of_length_le]
theorem GT.set_P (x : GT) (u_who : I16) (u_pn : SV) : splice x.c 0 ((u_who.c ++ [u_pn])) = GT.c { x with who := u_who, pn := u_pn } := by simp [splice, GT.c, List.drop_append, List.take_append, I16.c_length, List.drop_of_length_le]
theorem GT.part_ver (x : GT) : spart true x.c 34 17 = .agg ((x.vn :: x.vwho.c)) := by simp [spart, GT.c, List.drop_append, I16.c_length, List.take_of_length_le, List.drop_of_length_le]
theorem GT.set_ver (x : GT) (u_vn : SV) (u_vwho : I16) : splice x.c 34 ((u_vn :: u_vwho.c)) = GT.c { x with vn := u_vn, vwho := u_vwho } := by simp [splice, GT.c, List.take_append, I16.c_length, List.take_of_length_le, List.drop_of_length_le]
theorem GT.part (x : GT) : spart true x.c 0 51 = .agg x.c := by simp [spart, List.take_of_length_le, GT.c_length]
theorem GT.set_all (x y : GT) : splice x.c 0 y.c = y.c := splice_all _ _ (by rw [GT.c_length, GT.c_length])
theorem GT.one (x : GT) : x.c.all SV.one = (x.pn.one && x.toA.one && x.vn.one) := by simp [GT.c, List.all_append, I16.one, Bool.and_assoc]
theorem GT.flat (x : GT) : SV.flatL x.c = (x.pn.flat && x.toA.flat && x.vn.flat) := by simp [GT.c, flatL_cons, flatL_app, I16.flat, Bool.and_assoc]
theorem GT.renc (ρ : Nat → Nat) (x : GT) : SV.renL ρ x.c = GT.c ⟨x.who, SV.ren ρ x.pn, SV.ren ρ x.toA, x.key, SV.ren ρ x.vn, x.vwho⟩ := by simp [GT.c, renL_cons, renL_append, renL_flat _ _ (I16.flat _)]
theorem GT.ent {fz : Nat → Option SB} {ρ : Nat → Nat} (who : I16) (pn : SV) (toA : SV) (key : I16) (vn : SV) (vwho : I16) (pn' : SV) (toA' : SV) (vn' : SV) : EntL fz ρ (GT.c ⟨who, pn, toA, key, vn, vwho⟩) (GT.c ⟨who, pn', toA', key, vn', vwho⟩) = (Ent fz ρ pn pn' ∧ Ent fz ρ toA toA' ∧ Ent fz ρ vn vn') := by
  simp only [GT.c, EntL_pre _ _ _ (I16.flat _), EntL_cons, EntL_nil, and_true]
theorem PK.set_it (x : PK) (k : I16) (u : SV) (v : I16) (t : SV) : splice x.c 35 (IC.c ⟨k, u, v, t⟩) = PK.c { x with key := k, vn := u, vwho := v, val := t } := PK.set_item x k u v t
theorem PK.part_it (x : PK) : spart true x.c 35 34 = .agg (IC.c ⟨x.key, x.vn, x.vwho, x.val⟩) := PK.part_item x
theorem CP.set_it (x : CP) (k : I16) (u : SV) (v : I16) (t : SV) : splice x.c 18 (IC.c ⟨k, u, v, t⟩) = CP.c { x with key := k, vn := u, vwho := v, val := t } := CP.set_item x k u v t
theorem CP.part_it (x : CP) : spart true x.c 18 34 = .agg (IC.c ⟨x.key, x.vn, x.vwho, x.val⟩) := CP.part_item x
end Go.SL
namespace Go.Proofs
open Go Go.SL
set_option maxRecDepth 100000
def zSU : SU := ⟨I16.zero, .v (.int .i64 0), I16.zero, I16.zero, .v (.slice none 0 0)⟩
theorem bl226 (parts : List (Nat × SV)) : sBuild Try.prog 226 parts = sagg (sfill (fieldPlaceOf Try.prog 226) zSU.c parts) := by
  rw [sBuild_eq, tab.z226, tab.l226]; rfl
theorem al226 (N : Nat) : sAlloc Try.prog N 226 = some ⟨.ptr N 0 0, ⟨none, some (.row ⟨50, 1, true, 226, fun _ => zSU.c⟩)⟩, True⟩ := sAlloc_eq N 226 _ tab.z226 rfl
theorem sz226 : sZero Try.prog 226 = some (.agg zSU.c) := by kernel_rfl
theorem hit226 (v : SV) : sAssert Try.prog (.ifc 226 v) 226 true = some ⟨.tup [v, .v (.bool true)], {}, True⟩ := sassert_hit 226 v _ tab.u226 (fun _ h => nomatch h)
theorem miss226 (t : TypeId) (v : SV) (h : t ≠ 226) : sAssert Try.prog (.ifc t v) 226 true = some ⟨.tup [.agg zSU.c, .v (.bool false)], {}, True⟩ := sassert_miss t 226 v _ _ tab.u226 (fun _ h => nomatch h) h sz226
theorem mk226 (x : SV) : sMakeIface Try.prog 226 x = some ⟨.ifc 226 x, {}, True⟩ := by unfold sMakeIface; rw [tab.u226]
def bodpc7 :=
  (aI (aI @cells_agg (aI @fieldPlaceOf_eq @sagg_some)) (aI @sfill1_some (aI @sfill_cons @sfill_nil)))
def bodpb6 :=
  (aI (aI (aI bodpc7 (aI @SU.set_P @SU.set_a)) (aI @SU.set_b (aI @SU.set_tr @bl226))) (aI (aI @cells_bool (aI @cells_int @cells_slc)) (aI (aI @tab.f226x0 @tab.f226x1) (aI @tab.f226x2 @tab.f226x3))))
theorem build226 (who : I16) (a : I16) (b : I16) (pn : Int) (btr ktr : Nat) : sBuild Try.prog 226 [(0, .agg (who.c ++ [.v (.int .i64 pn)])), (1, .agg a.c), (2, .agg b.c), (3, .slc btr 0 ktr)] = some ⟨.agg (SU.c ⟨who, .v (.int .i64 pn), a, b, .slc btr 0 ktr⟩), {}, True⟩ := by
  simp (disch := simp [SU.c_length, I16.c_length, IC.c_length]) only [bodpb6, Option.map_some]
def zDR : DR := ⟨I16.zero, .v (.int .i64 0)⟩
theorem bl230 (parts : List (Nat × SV)) : sBuild Try.prog 230 parts = sagg (sfill (fieldPlaceOf Try.prog 230) zDR.c parts) := by
  rw [sBuild_eq, tab.z230, tab.l230]; rfl
theorem al230 (N : Nat) : sAlloc Try.prog N 230 = some ⟨.ptr N 0 0, ⟨none, some (.row ⟨17, 1, true, 230, fun _ => zDR.c⟩)⟩, True⟩ := sAlloc_eq N 230 _ tab.z230 rfl
theorem sz230 : sZero Try.prog 230 = some (.agg zDR.c) := by kernel_rfl
theorem hit230 (v : SV) : sAssert Try.prog (.ifc 230 v) 230 true = some ⟨.tup [v, .v (.bool true)], {}, True⟩ := sassert_hit 230 v _ tab.u230 (fun _ h => nomatch h)
theorem miss230 (t : TypeId) (v : SV) (h : t ≠ 230) : sAssert Try.prog (.ifc t v) 230 true = some ⟨.tup [.agg zDR.c, .v (.bool false)], {}, True⟩ := sassert_miss t 230 v _ _ tab.u230 (fun _ h => nomatch h) h sz230
theorem mk230 (x : SV) : sMakeIface Try.prog 230 x = some ⟨.ifc 230 x, {}, True⟩ := by unfold sMakeIface; rw [tab.u230]
def bodpb7 :=
  (aI (aI bodpc7 (aI @DR.set_P @bl230)) (aI (aI @cells_bool @cells_int) (aI @cells_slc @tab.f230x0)))
theorem build230 (who : I16) (pn : Int) : sBuild Try.prog 230 [(0, .agg (who.c ++ [.v (.int .i64 pn)]))] = some ⟨.agg (DR.c ⟨who, .v (.int .i64 pn)⟩), {}, True⟩ := by
  simp (disch := simp [DR.c_length, I16.c_length, IC.c_length]) only [bodpb7, Option.map_some]
def zPT : PT := ⟨I16.zero, .v (.int .i64 0), .v (.bool false)⟩
theorem bl232 (parts : List (Nat × SV)) : sBuild Try.prog 232 parts = sagg (sfill (fieldPlaceOf Try.prog 232) zPT.c parts) := by
  rw [sBuild_eq, tab.z232, tab.l232]; rfl
theorem al232 (N : Nat) : sAlloc Try.prog N 232 = some ⟨.ptr N 0 0, ⟨none, some (.row ⟨18, 1, true, 232, fun _ => zPT.c⟩)⟩, True⟩ := sAlloc_eq N 232 _ tab.z232 rfl
theorem sz232 : sZero Try.prog 232 = some (.agg zPT.c) := by kernel_rfl
theorem hit232 (v : SV) : sAssert Try.prog (.ifc 232 v) 232 true = some ⟨.tup [v, .v (.bool true)], {}, True⟩ := sassert_hit 232 v _ tab.u232 (fun _ h => nomatch h)
theorem miss232 (t : TypeId) (v : SV) (h : t ≠ 232) : sAssert Try.prog (.ifc t v) 232 true = some ⟨.tup [.agg zPT.c, .v (.bool false)], {}, True⟩ := sassert_miss t 232 v _ _ tab.u232 (fun _ h => nomatch h) h sz232
theorem mk232 (x : SV) : sMakeIface Try.prog 232 x = some ⟨.ifc 232 x, {}, True⟩ := by unfold sMakeIface; rw [tab.u232]
def bodpb8 :=
  (aI (aI (aI bodpc7 @PT.set_P) (aI @PT.set_toA @bl232)) (aI (aI @cells_bool @cells_int) (aI @cells_slc (aI @tab.f232x0 @tab.f232x1))))
theorem build232 (who : I16) (pn : Int) (toA : Bool) : sBuild Try.prog 232 [(0, .agg (who.c ++ [.v (.int .i64 pn)])), (1, .v (.bool toA))] = some ⟨.agg (PT.c ⟨who, .v (.int .i64 pn), .v (.bool toA)⟩), {}, True⟩ := by
  simp (disch := simp [PT.c_length, I16.c_length, IC.c_length]) only [bodpb8, Option.map_some]
def zPE : PE := ⟨I16.zero, .v (.int .i64 0), .v (.bool false), .v (.slice none 0 0)⟩
theorem bl235 (parts : List (Nat × SV)) : sBuild Try.prog 235 parts = sagg (sfill (fieldPlaceOf Try.prog 235) zPE.c parts) := by
  rw [sBuild_eq, tab.z235, tab.l235]; rfl
theorem al235 (N : Nat) : sAlloc Try.prog N 235 = some ⟨.ptr N 0 0, ⟨none, some (.row ⟨19, 1, true, 235, fun _ => zPE.c⟩)⟩, True⟩ := sAlloc_eq N 235 _ tab.z235 rfl
theorem sz235 : sZero Try.prog 235 = some (.agg zPE.c) := by kernel_rfl
theorem hit235 (v : SV) : sAssert Try.prog (.ifc 235 v) 235 true = some ⟨.tup [v, .v (.bool true)], {}, True⟩ := sassert_hit 235 v _ tab.u235 (fun _ h => nomatch h)
theorem miss235 (t : TypeId) (v : SV) (h : t ≠ 235) : sAssert Try.prog (.ifc t v) 235 true = some ⟨.tup [.agg zPE.c, .v (.bool false)], {}, True⟩ := sassert_miss t 235 v _ _ tab.u235 (fun _ h => nomatch h) h sz235
theorem mk235 (x : SV) : sMakeIface Try.prog 235 x = some ⟨.ifc 235 x, {}, True⟩ := by unfold sMakeIface; rw [tab.u235]
def bodpb9 :=
  (aI (aI (aI bodpc7 @PE.set_P) (aI @PE.set_is (aI @PE.set_toA @bl235))) (aI (aI @cells_bool (aI @cells_int @cells_slc)) (aI @tab.f235x0 (aI @tab.f235x1 @tab.f235x2))))
theorem build235 (who : I16) (pn : Int) (toA : Bool) (bis kis : Nat) : sBuild Try.prog 235 [(0, .agg (who.c ++ [.v (.int .i64 pn)])), (1, .v (.bool toA)), (2, .slc bis 0 kis)] = some ⟨.agg (PE.c ⟨who, .v (.int .i64 pn), .v (.bool toA), .slc bis 0 kis⟩), {}, True⟩ := by
  simp (disch := simp [PE.c_length, I16.c_length, IC.c_length]) only [bodpb9, Option.map_some]
def zAK : AK := ⟨I16.zero, I16.zero, .v (.int .i64 0), I16.zero, .v (.int .i64 0), .v (.bool false), .v (.slice none 0 0)⟩
theorem bl237 (parts : List (Nat × SV)) : sBuild Try.prog 237 parts = sagg (sfill (fieldPlaceOf Try.prog 237) zAK.c parts) := by
  rw [sBuild_eq, tab.z237, tab.l237]; rfl
theorem al237 (N : Nat) : sAlloc Try.prog N 237 = some ⟨.ptr N 0 0, ⟨none, some (.row ⟨52, 1, true, 237, fun _ => zAK.c⟩)⟩, True⟩ := sAlloc_eq N 237 _ tab.z237 rfl
theorem sz237 : sZero Try.prog 237 = some (.agg zAK.c) := by kernel_rfl
theorem hit237 (v : SV) : sAssert Try.prog (.ifc 237 v) 237 true = some ⟨.tup [v, .v (.bool true)], {}, True⟩ := sassert_hit 237 v _ tab.u237 (fun _ h => nomatch h)
theorem miss237 (t : TypeId) (v : SV) (h : t ≠ 237) : sAssert Try.prog (.ifc t v) 237 true = some ⟨.tup [.agg zAK.c, .v (.bool false)], {}, True⟩ := sassert_miss t 237 v _ _ tab.u237 (fun _ h => nomatch h) h sz237
theorem mk237 (x : SV) : sMakeIface Try.prog 237 x = some ⟨.ifc 237 x, {}, True⟩ := by unfold sMakeIface; rw [tab.u237]
def bodpb10 :=
  (aI (aI (aI bodpc7 (aI bodpc5 @AK.set_P)) (aI @AK.set_a (aI @AK.set_b @AK.set_op))) (aI (aI @AK.set_toA (aI @AK.set_tr @bl237)) (aI @cells_bool (aI @cells_int @cells_slc))))
theorem build237 (a : I16) (b : I16) (who : I16) (op : Int) (pn : Int) (toA : Bool) (btr ktr : Nat) : sBuild Try.prog 237 [(0, .agg a.c), (1, .agg b.c), (2, .v (.int .i64 op)), (3, .agg (who.c ++ [.v (.int .i64 pn)])), (4, .v (.bool toA)), (5, .slc btr 0 ktr)] = some ⟨.agg (AK.c ⟨a, b, .v (.int .i64 op), who, .v (.int .i64 pn), .v (.bool toA), .slc btr 0 ktr⟩), {}, True⟩ := by
  simp (disch := simp [AK.c_length, I16.c_length, IC.c_length]) only [bodpb10, Option.map_some]
def zAD : AD := ⟨I16.zero, .v (.int .i64 0)⟩
theorem bl239 (parts : List (Nat × SV)) : sBuild Try.prog 239 parts = sagg (sfill (fieldPlaceOf Try.prog 239) zAD.c parts) := by
  rw [sBuild_eq, tab.z239, tab.l239]; rfl
theorem al239 (N : Nat) : sAlloc Try.prog N 239 = some ⟨.ptr N 0 0, ⟨none, some (.row ⟨17, 1, true, 239, fun _ => zAD.c⟩)⟩, True⟩ := sAlloc_eq N 239 _ tab.z239 rfl
theorem sz239 : sZero Try.prog 239 = some (.agg zAD.c) := by kernel_rfl
theorem hit239 (v : SV) : sAssert Try.prog (.ifc 239 v) 239 true = some ⟨.tup [v, .v (.bool true)], {}, True⟩ := sassert_hit 239 v _ tab.u239 (fun _ h => nomatch h)
theorem miss239 (t : TypeId) (v : SV) (h : t ≠ 239) : sAssert Try.prog (.ifc t v) 239 true = some ⟨.tup [.agg zAD.c, .v (.bool false)], {}, True⟩ := sassert_miss t 239 v _ _ tab.u239 (fun _ h => nomatch h) h sz239
theorem mk239 (x : SV) : sMakeIface Try.prog 239 x = some ⟨.ifc 239 x, {}, True⟩ := by unfold sMakeIface; rw [tab.u239]
def bodpb11 :=
  (aI (aI (aI bodpc7 @AD.set_a) (aI @AD.set_n @bl239)) (aI (aI @cells_bool @cells_int) (aI @cells_slc (aI @tab.f239x0 @tab.f239x1))))
theorem build239 (a : I16) (n : Int) : sBuild Try.prog 239 [(0, .agg a.c), (1, .v (.int .i64 n))] = some ⟨.agg (AD.c ⟨a, .v (.int .i64 n)⟩), {}, True⟩ := by
  simp (disch := simp [AD.c_length, I16.c_length, IC.c_length]) only [bodpb11, Option.map_some]
def zPK : PK := ⟨I16.zero, I16.zero, .v (.int .i64 0), .v (.int .i64 0), .v (.int .i64 0), I16.zero, .v (.int .i64 0), I16.zero, .v (.slice none 0 0), .v (.slice none 0 0)⟩
theorem bl241 (parts : List (Nat × SV)) : sBuild Try.prog 241 parts = sagg (sfill (fieldPlaceOf Try.prog 241) zPK.c parts) := by
  rw [sBuild_eq, tab.z241, tab.l241]; rfl
theorem al241 (N : Nat) : sAlloc Try.prog N 241 = some ⟨.ptr N 0 0, ⟨none, some (.row ⟨70, 1, true, 241, fun _ => zPK.c⟩)⟩, True⟩ := sAlloc_eq N 241 _ tab.z241 rfl
theorem sz241 : sZero Try.prog 241 = some (.agg zPK.c) := by kernel_rfl
theorem hit241 (v : SV) : sAssert Try.prog (.ifc 241 v) 241 true = some ⟨.tup [v, .v (.bool true)], {}, True⟩ := sassert_hit 241 v _ tab.u241 (fun _ h => nomatch h)
theorem miss241 (t : TypeId) (v : SV) (h : t ≠ 241) : sAssert Try.prog (.ifc t v) 241 true = some ⟨.tup [.agg zPK.c, .v (.bool false)], {}, True⟩ := sassert_miss t 241 v _ _ tab.u241 (fun _ h => nomatch h) h sz241
theorem mk241 (x : SV) : sMakeIface Try.prog 241 x = some ⟨.ifc 241 x, {}, True⟩ := by unfold sMakeIface; rw [tab.u241]
def bodpb12 :=
  (aI (aI (aI bodpc7 (aI bodpc6 @PK.set_a)) (aI @PK.set_b (aI @PK.set_it @PK.set_n))) (aI (aI @PK.set_op (aI @PK.set_ttl @PK.set_tx)) (aI (aI @bl241 @cells_bool) (aI @cells_int @cells_slc))))
theorem build241 (a : I16) (b : I16) (key : I16) (vwho : I16) (n : Int) (op : Int) (ttl : Int) (vn : Int) (val : SV) (btx ktx : Nat) : sBuild Try.prog 241 [(0, .agg a.c), (1, .agg b.c), (2, .v (.int .i64 n)), (3, .v (.int .i64 op)), (4, .v (.int .i64 ttl)), (5, .agg (IC.c ⟨key, .v (.int .i64 vn), vwho, val⟩)), (6, .slc btx 0 ktx)] = some ⟨.agg (PK.c ⟨a, b, .v (.int .i64 n), .v (.int .i64 op), .v (.int .i64 ttl), key, .v (.int .i64 vn), vwho, val, .slc btx 0 ktx⟩), {}, True⟩ := by
  simp (disch := simp [PK.c_length, I16.c_length, IC.c_length]) only [bodpb12, Option.map_some]
def zCP : CP := ⟨I16.zero, .v (.int .i64 0), .v (.bool false), I16.zero, .v (.int .i64 0), I16.zero, .v (.slice none 0 0)⟩
theorem bl244 (parts : List (Nat × SV)) : sBuild Try.prog 244 parts = sagg (sfill (fieldPlaceOf Try.prog 244) zCP.c parts) := by
  rw [sBuild_eq, tab.z244, tab.l244]; rfl
theorem al244 (N : Nat) : sAlloc Try.prog N 244 = some ⟨.ptr N 0 0, ⟨none, some (.row ⟨52, 1, true, 244, fun _ => zCP.c⟩)⟩, True⟩ := sAlloc_eq N 244 _ tab.z244 rfl
theorem sz244 : sZero Try.prog 244 = some (.agg zCP.c) := by kernel_rfl
theorem hit244 (v : SV) : sAssert Try.prog (.ifc 244 v) 244 true = some ⟨.tup [v, .v (.bool true)], {}, True⟩ := sassert_hit 244 v _ tab.u244 (fun _ h => nomatch h)
theorem miss244 (t : TypeId) (v : SV) (h : t ≠ 244) : sAssert Try.prog (.ifc t v) 244 true = some ⟨.tup [.agg zCP.c, .v (.bool false)], {}, True⟩ := sassert_miss t 244 v _ _ tab.u244 (fun _ h => nomatch h) h sz244
theorem mk244 (x : SV) : sMakeIface Try.prog 244 x = some ⟨.ifc 244 x, {}, True⟩ := by unfold sMakeIface; rw [tab.u244]
def bodpb13 :=
  (aI (aI (aI bodpc7 @CP.set_P) (aI @CP.set_it (aI @CP.set_toA @bl244))) (aI (aI @cells_bool (aI @cells_int @cells_slc)) (aI @tab.f244x0 (aI @tab.f244x1 @tab.f244x2))))
theorem build244 (who : I16) (key : I16) (vwho : I16) (pn : Int) (toA : Bool) (vn : Int) (val : SV) : sBuild Try.prog 244 [(0, .agg (who.c ++ [.v (.int .i64 pn)])), (1, .v (.bool toA)), (2, .agg (IC.c ⟨key, .v (.int .i64 vn), vwho, val⟩))] = some ⟨.agg (CP.c ⟨who, .v (.int .i64 pn), .v (.bool toA), key, .v (.int .i64 vn), vwho, val⟩), {}, True⟩ := by
  simp (disch := simp [CP.c_length, I16.c_length, IC.c_length]) only [bodpb13, Option.map_some]
def zGT : GT := ⟨I16.zero, .v (.int .i64 0), .v (.bool false), I16.zero, .v (.int .i64 0), I16.zero⟩
theorem bl246 (parts : List (Nat × SV)) : sBuild Try.prog 246 parts = sagg (sfill (fieldPlaceOf Try.prog 246) zGT.c parts) := by
  rw [sBuild_eq, tab.z246, tab.l246]; rfl
theorem al246 (N : Nat) : sAlloc Try.prog N 246 = some ⟨.ptr N 0 0, ⟨none, some (.row ⟨51, 1, true, 246, fun _ => zGT.c⟩)⟩, True⟩ := sAlloc_eq N 246 _ tab.z246 rfl
theorem hit246 (v : SV) : sAssert Try.prog (.ifc 246 v) 246 true = some ⟨.tup [v, .v (.bool true)], {}, True⟩ := sassert_hit 246 v _ tab.u246 (fun _ h => nomatch h)
theorem mk246 (x : SV) : sMakeIface Try.prog 246 x = some ⟨.ifc 246 x, {}, True⟩ := by unfold sMakeIface; rw [tab.u246]
def bodpb14 :=
  (aI (aI (aI bodpc7 (aI @GT.set_P @GT.set_key)) (aI @GT.set_toA (aI @GT.set_ver @bl246))) (aI (aI @cells_bool (aI @cells_int @cells_slc)) (aI (aI @tab.f246x0 @tab.f246x1) (aI @tab.f246x2 @tab.f246x3))))
theorem build246 (who : I16) (key : I16) (vwho : I16) (pn : Int) (toA : Bool) (vn : Int) : sBuild Try.prog 246 [(0, .agg (who.c ++ [.v (.int .i64 pn)])), (1, .v (.bool toA)), (2, .agg key.c), (3, .agg (.v (.int .i64 vn) :: vwho.c))] = some ⟨.agg (GT.c ⟨who, .v (.int .i64 pn), .v (.bool toA), key, .v (.int .i64 vn), vwho⟩), {}, True⟩ := by
  simp (disch := simp [GT.c_length, I16.c_length, IC.c_length]) only [bodpb14, Option.map_some]
end Go.Proofs
namespace Go.Proofs
open Go Go.SL
set_option maxRecDepth 100000
theorem elN3 : ElTy Try.prog 3 1 8 := ⟨tab.s3, tab.b3, ⟨_, tab.z3, rfl⟩, by decide, by decide⟩
theorem elN23 : ElTy Try.prog 23 16 16 := ⟨tab.s23, tab.b23, ⟨_, tab.z23, rfl⟩, by decide, by decide⟩
theorem al149 (N : Nat) : sAlloc Try.prog N 149 = some ⟨.ptr N 0 0, ⟨none, some (.row ⟨34, 1, true, 149, fun _ => IC.c ⟨I16.zero, .v (.int .i64 0), I16.zero, .v (.slice none 0 0)⟩⟩)⟩, True⟩ := sAlloc_eq N 149 _ tab.z149 rfl
def bodpc8 :=
  (aI (aI (aI @AD.one @AK.one) (aI @CP.one @DR.one)) (aI (aI @GT.one @PE.one) (aI @PK.one (aI @PT.one @SU.one))))
def bodpb15 :=
  (aI (aI (aI (aI bodpc8 bodpc0) (aI @AD.flat @CP.flat)) (aI (aI @DR.flat @FC.c_length) (aI @GT.flat (aI @H1.c_length @I16.c_length)))) (aI (aI (aI @I16.flat @IC.c_length) (aI @IC.flat @PT.flat)) (aI (aI @idrs_flat @idrs_len) (aI @lrows_flat (aI @lrows_length @zF.eq_1)))))
def bodpb16 :=
  (aI (aI (aI bodpc1 (aI bodpc3 @FC.c_length)) (aI @H1.c_length (aI @I16.c_length @IC.at_val))) (aI (aI @IC.c_length (aI @IC.part @IC.set_all)) (aI (aI @IC.set_val @al149) (aI @tab.f149x0 @tab.f149x1))))
def bodpb17 :=
  (aI (aI (aI (aI bodpc1 bodpc3) (aI @FC.c_length @H1.c_length)) (aI (aI @I16.c_length @IC.at_val) (aI @IC.c_length @IC.ent))) (aI (aI (aI @IC.part @IC.set_all) (aI @bwk_a @eq_self.{1})) (aI (aI @forall_const.{1} @implies_true.{0}) (aI @implies_true.{1} (aI @tab.f149x0 @tab.f149x1)))))
theorem item_calls (key vwho : I16) (vn : Int) (val : List UInt8) (h : val.length ≤ 140737488355328) : Pure Try.prog 167 [.agg (IC.c ⟨key, .v (.int .i64 vn), vwho, bsl val⟩)] (.agg (IC.c ⟨key, .v (.int .i64 vn), vwho, bsl val⟩)) := by
  refine SCall.mk (fn := Try.f167) (by kernel_rfl) rfl (Nat.le_of_ble_eq_true (by kernel_rfl)) ?_
  refine goC ?_
  simp -dsimp +decide (disch := first | omega | simp +decide only [bodpb15]) only [bodpb16, ↓brun_b, envOf, Nat.reduceAdd, Nat.reduceBEq, sapp1_sl el5, h]
  refine SQ.answer (rs := [.cell 2 149]) rfl rfl ?_
  simp -dsimp +decide (disch := first | omega | simp +decide only [bodpb15]) only [bodpb17, ↓brun_b, reduceIte, Nat.reduceAdd, Nat.reduceBEq, rho, ↓reduceIte]
  exact Ent_row rfl rfl (brows_length _).symm (by omega) fun i r hr => app_row _ (flatR_brows _) i r hr
def bodpc9 :=
  (aI (aI (aI (aI @AK.ent @PE.ent) (aI @PK.ent (aI @SU.ent @build226))) (aI (aI @build230 (aI @build232 @build235)) (aI @build237 (aI @build239 @build241)))) (aI (aI (aI @build244 @build246) (aI @mk226 (aI @mk230 @mk232))) (aI (aI @mk235 (aI @mk237 @mk239)) (aI @mk241 (aI @mk244 @mk246)))))
def bodpb18 :=
  (aI (aI (aI (aI (aI bodpc9 (aI bodpc1 bodpc2)) (aI bodpc3 (aI bodpc4 bodpc5))) (aI (aI bodpc6 (aI @FC.c_length @H1.c_length)) (aI @I16.c_length (aI @IC.at_val @IC.c_length)))) (aI (aI (aI @IC.ent (aI @tab.f149x0 @tab.f149x1)) (aI @tab.f151x0 (aI @tab.f151x1 @tab.f151x10))) (aI (aI @tab.f151x11 (aI @tab.f151x12 @tab.f151x13)) (aI @tab.f151x2 (aI @tab.f151x3 @tab.f151x4))))) (aI (aI (aI (aI @tab.f151x5 (aI @tab.f151x6 @tab.f151x7)) (aI @tab.f151x8 (aI @tab.f151x9 @tab.f226x0))) (aI (aI @tab.f226x1 (aI @tab.f226x2 @tab.f226x3)) (aI @tab.f230x0 (aI @tab.f232x0 @tab.f232x1)))) (aI (aI (aI @tab.f235x0 (aI @tab.f235x1 @tab.f235x2)) (aI @tab.f239x0 (aI @tab.f239x1 @tab.f244x0))) (aI (aI @tab.f244x1 (aI @tab.f244x2 @tab.f246x0)) (aI @tab.f246x1 (aI @tab.f246x2 @tab.f246x3))))))
def bodpb19 :=
  (aI (aI (aI (aI (aI bodpc9 (aI bodpc1 bodpc2)) (aI bodpc3 (aI bodpc4 bodpc5))) (aI (aI bodpc6 (aI @FC.c_length @H1.c_length)) (aI @I16.c_length (aI @IC.at_val @IC.c_length)))) (aI (aI (aI @IC.ent (aI @lrows_length @tab.f149x0)) (aI @tab.f149x1 (aI @tab.f151x0 @tab.f151x1))) (aI (aI @tab.f151x10 (aI @tab.f151x11 @tab.f151x12)) (aI @tab.f151x13 (aI @tab.f151x2 @tab.f151x3))))) (aI (aI (aI (aI @tab.f151x4 (aI @tab.f151x5 @tab.f151x6)) (aI @tab.f151x7 (aI @tab.f151x8 @tab.f151x9))) (aI (aI @tab.f226x0 (aI @tab.f226x1 @tab.f226x2)) (aI @tab.f226x3 (aI @tab.f230x0 @tab.f232x0)))) (aI (aI (aI @tab.f232x1 (aI @tab.f235x0 @tab.f235x1)) (aI @tab.f235x2 (aI @tab.f239x0 @tab.f239x1))) (aI (aI @tab.f244x0 (aI @tab.f244x1 @tab.f244x2)) (aI (aI @tab.f246x0 @tab.f246x1) (aI @tab.f246x2 @tab.f246x3))))))
def bodpb20 :=
  (aI (aI (aI (aI (aI bodpc9 (aI bodpc1 bodpc2)) (aI bodpc3 (aI bodpc4 bodpc5))) (aI (aI bodpc6 (aI @FC.c_length @H1.c_length)) (aI @I16.c_length (aI @IC.ent @bwk_a)))) (aI (aI (aI @eq_self.{1} (aI @forall_const.{1} @implies_true.{0})) (aI @implies_true.{1} (aI @tab.f149x0 @tab.f149x1))) (aI (aI @tab.f151x0 (aI @tab.f151x1 @tab.f151x10)) (aI (aI @tab.f151x11 @tab.f151x12) (aI @tab.f151x13 @tab.f151x2))))) (aI (aI (aI (aI @tab.f151x3 (aI @tab.f151x4 @tab.f151x5)) (aI @tab.f151x6 (aI @tab.f151x7 @tab.f151x8))) (aI (aI @tab.f151x9 (aI @tab.f226x0 @tab.f226x1)) (aI (aI @tab.f226x2 @tab.f226x3) (aI @tab.f230x0 @tab.f232x0)))) (aI (aI (aI @tab.f232x1 (aI @tab.f235x0 @tab.f235x1)) (aI @tab.f235x2 (aI @tab.f239x0 @tab.f239x1))) (aI (aI @tab.f244x0 (aI @tab.f244x1 @tab.f244x2)) (aI (aI @tab.f246x0 @tab.f246x1) (aI @tab.f246x2 @tab.f246x3))))))
theorem of_k4 (F : Frm) (hk : F.kind = 4) (h8 : F.tr.length * 8 ≤ 140737488355328) : Pure Try.prog 119 [.agg F.fc.c] (.tup [.ifc 226 (.agg (SU.c ⟨F.who, .v (.int .i64 F.pn), F.a, F.b, .rsl 1 (lrows F.tr)⟩)), .v (.bool true)]) := by
  refine SCall.mk (fn := Try.f119) (by kernel_rfl) rfl (Nat.le_of_ble_eq_true (by kernel_rfl)) ?_
  refine goC ?_
  simp -dsimp +decide (disch := first | omega | simp +decide only [bodpb15]) only [bodpb18, ↓brun_b, envOf, Nat.reduceBEq, Frm.fc, hk]
  refine Sem.draw' (by kernel_rfl) (.one 0 (.one 1 (.one 2 (.one 3 (.one 4 (.one 5 (.one 6 (.one 7 (.alt 8 (.one 9 (.one 10 (.one 11 (.one 12 .done)))) .non))))))))) [] (by kernel_rfl) (fun G ff hG hf => ?_)
  simp +decide only [bodpb4] at hG ⊢
  simp -dsimp +decide (disch := first | omega | simp +decide only [bodpb15]) only [bodpb19, ↓brun_b, Nat.reduceAdd, Nat.reduceBEq, hG, sapp1_sl elN3, h8]
  refine hf _ (Sem.go (k := 1000) ?_)
  simp +decide only [back_mk, backL_row, backL_nil, Nat.zero_add]
  simp -dsimp +decide (disch := first | omega | simp +decide only [bodpb15]) only [bodpb3]
  refine SQ.answer (rs := [.tmp 2, .tmp 3]) rfl rfl ?_
  simp -dsimp +decide (disch := first | omega | simp +decide only [bodpb15]) only [bodpb20, ↓brun_b, reduceIte, Nat.reduceAdd, Nat.reduceBEq, rho, ↓reduceIte]
  exact Ent_row rfl rfl (lrows_length _).symm (by omega) fun i r hr => app_row _ (lrows_flat _) i r hr
theorem of_k5 (F : Frm) (hk : F.kind = 5) : Pure Try.prog 119 [.agg F.fc.c] (.tup [.ifc 230 (.agg (DR.c ⟨F.who, .v (.int .i64 F.pn)⟩)), .v (.bool true)]) := by
  refine SCall.mk (fn := Try.f119) (by kernel_rfl) rfl (Nat.le_of_ble_eq_true (by kernel_rfl)) ?_
  refine goC ?_
  simp -dsimp +decide (disch := first | omega | simp +decide only [bodpb15]) only [bodpb18, ↓brun_b, envOf, Nat.reduceBEq, Frm.fc, hk]
  refine SQ.answer (rs := [.tmp 2, .tmp 3]) rfl rfl ?_
  simp -dsimp +decide (disch := first | omega | simp +decide only [bodpb15]) only [bodpb20, ↓brun_b, Nat.reduceBEq, rho]
theorem of_k6 (F : Frm) (hk : F.kind = 6) : Pure Try.prog 119 [.agg F.fc.c] (.tup [.ifc 232 (.agg (PT.c ⟨F.who, .v (.int .i64 F.pn), .v (.bool F.toA)⟩)), .v (.bool true)]) := by
  refine SCall.mk (fn := Try.f119) (by kernel_rfl) rfl (Nat.le_of_ble_eq_true (by kernel_rfl)) ?_
  refine goC ?_
  simp -dsimp +decide (disch := first | omega | simp +decide only [bodpb15]) only [bodpb18, ↓brun_b, envOf, Nat.reduceBEq, Frm.fc, hk]
  refine SQ.answer (rs := [.tmp 2, .tmp 3]) rfl rfl ?_
  simp -dsimp +decide (disch := first | omega | simp +decide only [bodpb15]) only [bodpb20, ↓brun_b, Nat.reduceBEq, rho]
def bodpb21 :=
  (aI (aI (aI (aI (aI bodpc9 (aI bodpc1 bodpc2)) (aI bodpc3 (aI bodpc4 bodpc5))) (aI (aI bodpc6 (aI @FC.c_length @H1.c_length)) (aI @I16.c_length (aI @IC.at_val @IC.c_length)))) (aI (aI (aI @IC.ent (aI @idrs_len @tab.f149x0)) (aI @tab.f149x1 (aI @tab.f151x0 @tab.f151x1))) (aI (aI @tab.f151x10 (aI @tab.f151x11 @tab.f151x12)) (aI @tab.f151x13 (aI @tab.f151x2 @tab.f151x3))))) (aI (aI (aI (aI @tab.f151x4 (aI @tab.f151x5 @tab.f151x6)) (aI @tab.f151x7 (aI @tab.f151x8 @tab.f151x9))) (aI (aI @tab.f226x0 (aI @tab.f226x1 @tab.f226x2)) (aI @tab.f226x3 (aI @tab.f230x0 @tab.f232x0)))) (aI (aI (aI @tab.f232x1 (aI @tab.f235x0 @tab.f235x1)) (aI @tab.f235x2 (aI @tab.f239x0 @tab.f239x1))) (aI (aI @tab.f244x0 (aI @tab.f244x1 @tab.f244x2)) (aI (aI @tab.f246x0 @tab.f246x1) (aI @tab.f246x2 @tab.f246x3))))))
theorem of_k7 (F : Frm) (hk : F.kind = 7) (h9 : F.is.length * 16 ≤ 140737488355328) : Pure Try.prog 119 [.agg F.fc.c] (.tup [.ifc 235 (.agg (PE.c ⟨F.who, .v (.int .i64 F.pn), .v (.bool F.toA), .rsl 16 (idrs F.is)⟩)), .v (.bool true)]) := by
  refine SCall.mk (fn := Try.f119) (by kernel_rfl) rfl (Nat.le_of_ble_eq_true (by kernel_rfl)) ?_
  refine goC ?_
  simp -dsimp +decide (disch := first | omega | simp +decide only [bodpb15]) only [bodpb18, ↓brun_b, envOf, Nat.reduceBEq, Frm.fc, hk]
  refine Sem.draw' (by kernel_rfl) (.one 0 (.one 1 (.one 2 (.one 3 (.one 4 (.one 5 (.alt 6 (.one 7 (.one 8 (.one 9 (.one 10 .done)))) .non))))))) [] (by kernel_rfl) (fun G ff hG hf => ?_)
  simp +decide only [bodpb4] at hG ⊢
  simp -dsimp +decide (disch := first | omega | simp +decide only [bodpb15]) only [bodpb21, ↓brun_b, Nat.reduceAdd, Nat.reduceBEq, hG, sapp1_sl elN23, h9]
  refine hf _ (Sem.go (k := 1000) ?_)
  simp +decide only [back_mk, backL_row, backL_nil, Nat.zero_add]
  simp -dsimp +decide (disch := first | omega | simp +decide only [bodpb15]) only [bodpb3]
  refine SQ.answer (rs := [.tmp 2, .tmp 3]) rfl rfl ?_
  simp -dsimp +decide (disch := first | omega | simp +decide only [bodpb15]) only [bodpb20, ↓brun_b, reduceIte, Nat.reduceAdd, Nat.reduceBEq, rho, ↓reduceIte]
  exact Ent_row rfl rfl (idrs_len _).symm (by omega) fun i r hr => app_row _ (idrs_flat _) i r hr
theorem of_k8 (F : Frm) (hk : F.kind = 8) (h8 : F.tr.length * 8 ≤ 140737488355328) : Pure Try.prog 119 [.agg F.fc.c] (.tup [.ifc 237 (.agg (AK.c ⟨F.a, F.b, .v (.int .i64 F.op), F.who, .v (.int .i64 F.pn), .v (.bool F.toA), .rsl 1 (lrows F.tr)⟩)), .v (.bool true)]) := by
  refine SCall.mk (fn := Try.f119) (by kernel_rfl) rfl (Nat.le_of_ble_eq_true (by kernel_rfl)) ?_
  refine goC ?_
  simp -dsimp +decide (disch := first | omega | simp +decide only [bodpb15]) only [bodpb18, ↓brun_b, envOf, Nat.reduceBEq, Frm.fc, hk]
  refine Sem.draw' (by kernel_rfl) (.one 0 (.one 1 (.one 2 (.one 3 (.one 4 (.one 5 (.one 6 (.one 7 (.one 8 (.one 9 (.one 10 (.one 11 (.alt 12 (.one 13 (.one 14 (.one 15 (.one 16 .done)))) .non))))))))))))) [] (by kernel_rfl) (fun G ff hG hf => ?_)
  simp +decide only [bodpb4] at hG ⊢
  simp -dsimp +decide (disch := first | omega | simp +decide only [bodpb15]) only [bodpb19, ↓brun_b, Nat.reduceAdd, Nat.reduceBEq, hG, sapp1_sl elN3, h8]
  refine hf _ (Sem.go (k := 1000) ?_)
  simp +decide only [back_mk, backL_row, backL_nil, Nat.zero_add]
  simp -dsimp +decide (disch := first | omega | simp +decide only [bodpb15]) only [bodpb3]
  refine SQ.answer (rs := [.tmp 2, .tmp 3]) rfl rfl ?_
  simp -dsimp +decide (disch := first | omega | simp +decide only [bodpb15]) only [bodpb20, ↓brun_b, reduceIte, Nat.reduceAdd, Nat.reduceBEq, rho, ↓reduceIte]
  exact Ent_row rfl rfl (lrows_length _).symm (by omega) fun i r hr => app_row _ (lrows_flat _) i r hr
theorem of_k9 (F : Frm) (hk : F.kind = 9) : Pure Try.prog 119 [.agg F.fc.c] (.tup [.ifc 239 (.agg (AD.c ⟨F.a, .v (.int .i64 F.n)⟩)), .v (.bool true)]) := by
  refine SCall.mk (fn := Try.f119) (by kernel_rfl) rfl (Nat.le_of_ble_eq_true (by kernel_rfl)) ?_
  refine goC ?_
  simp -dsimp +decide (disch := first | omega | simp +decide only [bodpb15]) only [bodpb18, ↓brun_b, envOf, Nat.reduceBEq, Frm.fc, hk]
  refine SQ.answer (rs := [.tmp 2, .tmp 3]) rfl rfl ?_
  simp -dsimp +decide (disch := first | omega | simp +decide only [bodpb15]) only [bodpb20, ↓brun_b, Nat.reduceBEq, rho]
def bodpb22 :=
  (aI (aI (aI @AD.flat @CP.flat) (aI @DR.flat @GT.flat)) (aI (aI @I16.flat @IC.flat) (aI @PT.flat (aI @idrs_flat @lrows_flat))))
def bodpb23 :=
  (aI (aI (aI (aI (aI bodpc3 bodpc4) (aI bodpc5 bodpc6)) (aI (aI @tab.f149x0 @tab.f149x1) (aI @tab.f151x0 (aI @tab.f151x1 @tab.f151x10)))) (aI (aI (aI @tab.f151x11 @tab.f151x12) (aI @tab.f151x13 (aI @tab.f151x2 @tab.f151x3))) (aI (aI @tab.f151x4 @tab.f151x5) (aI @tab.f151x6 (aI @tab.f151x7 @tab.f151x8))))) (aI (aI (aI (aI @tab.f151x9 @tab.f226x0) (aI @tab.f226x1 (aI @tab.f226x2 @tab.f226x3))) (aI (aI @tab.f230x0 @tab.f232x0) (aI @tab.f232x1 (aI @tab.f235x0 @tab.f235x1)))) (aI (aI (aI @tab.f235x2 @tab.f239x0) (aI @tab.f239x1 (aI @tab.f244x0 @tab.f244x1))) (aI (aI @tab.f244x2 @tab.f246x0) (aI @tab.f246x1 (aI @tab.f246x2 @tab.f246x3))))))
theorem of_k10 (F : Frm) (hk : F.kind = 10) (h10 : F.tx.length ≤ 140737488355328) (h11 : F.val.length ≤ 140737488355328) : Pure Try.prog 119 [.agg F.fc.c] (.tup [.ifc 241 (.agg (PK.c ⟨F.a, F.b, .v (.int .i64 F.n), .v (.int .i64 F.op), .v (.int .i64 F.ttl), F.key, .v (.int .i64 F.vn), F.vwho, bsl F.val, bsl F.tx⟩)), .v (.bool true)]) := by
  refine SCall.mk (fn := Try.f119) (by kernel_rfl) rfl (Nat.le_of_ble_eq_true (by kernel_rfl)) ?_
  refine goC ?_
  simp -dsimp +decide (disch := first | omega | simp +decide only [bodpb15]) only [bodpb18, ↓brun_b, envOf, Nat.reduceBEq, Frm.fc, hk]
  refine Sem.draw' (by kernel_rfl) (.one 0 (.one 1 (.one 2 (.one 3 (.one 4 (.one 5 (.one 6 (.one 7 (.one 8 (.one 9 (.one 10 (.one 11 (.one 13 (.one 14 (.alt 12 (.alt 15 (.one 16 (.one 17 (.one 18 (.one 19 .done)))) .non) .non))))))))))))))) [] (by kernel_rfl) (fun G ff hG hf => ?_)
  simp +decide only [bodpb4] at hG ⊢
  simp -dsimp +decide (disch := first | omega | simp +decide only [bodpb15]) only [bodpb18, ↓brun_b, Nat.reduceBEq, hG]
  refine OpSem.callq cal.f167 (item_calls F.key F.vwho F.vn F.val h11) rfl rfl rfl (by simp only [bflat_a, bodpb22]) (by simp only [bflat_a, bodpb22]) (dK rfl) ?_
  simp -dsimp +decide (disch := first | omega | simp +decide only [bodpb15]) only [bodpb18, ↓brun_b, Nat.reduceAdd, Nat.reduceBEq, sapp1_sl el5, h10]
  refine hf _ (Sem.go (k := 1000) ?_)
  simp +decide only [back_mk, backL_row, backL_nil, Nat.zero_add]
  simp -dsimp +decide (disch := first | omega | simp +decide only [bodpb15]) only [bodpb3]
  refine SQ.answer (rs := [.tmp 2, .tmp 3]) rfl rfl ?_
  simp -dsimp +decide (disch := first | omega | simp +decide only [bodpb15]) only [bodpb20, ↓brun_b, reduceIte, Nat.reduceAdd, Nat.reduceBEq, rho, ↓reduceIte]
  exact Ent_row rfl rfl (brows_length _).symm (by omega) fun i r hr => app_row _ (flatR_brows _) i r hr
theorem of_k11 (F : Frm) (hk : F.kind = 11) (h11 : F.val.length ≤ 140737488355328) : Pure Try.prog 119 [.agg F.fc.c] (.tup [.ifc 244 (.agg (CP.c ⟨F.who, .v (.int .i64 F.pn), .v (.bool F.toA), F.key, .v (.int .i64 F.vn), F.vwho, bsl F.val⟩)), .v (.bool true)]) := by
  refine SCall.mk (fn := Try.f119) (by kernel_rfl) rfl (Nat.le_of_ble_eq_true (by kernel_rfl)) ?_
  refine goC ?_
  simp -dsimp +decide (disch := first | omega | simp +decide only [bodpb15]) only [bodpb18, ↓brun_b, envOf, Nat.reduceBEq, Frm.fc, hk]
  refine Sem.draw' (by kernel_rfl) (.one 0 (.one 1 (.one 2 (.one 3 (.one 4 (.one 5 (.alt 6 (.one 7 (.one 8 (.one 9 (.one 10 .done)))) .non))))))) [] (by kernel_rfl) (fun G ff hG hf => ?_)
  simp +decide only [bodpb4] at hG ⊢
  simp -dsimp +decide (disch := first | omega | simp +decide only [bodpb15]) only [bodpb18, ↓brun_b, Nat.reduceBEq, hG]
  refine OpSem.callq cal.f167 (item_calls F.key F.vwho F.vn F.val h11) rfl rfl rfl (by simp only [bflat_a, bodpb22]) (by simp only [bflat_a, bodpb22]) (dK rfl) ?_
  simp -dsimp +decide (disch := first | omega | simp +decide only [bodpb15]) only [bodpb18, ↓brun_b, Nat.reduceBEq]
  refine hf _ (Sem.go (k := 1000) ?_)
  simp +decide only [back_mk, backL_row, backL_nil, Nat.zero_add]
  simp -dsimp +decide (disch := first | omega | simp +decide only [bodpb15]) only [bodpb3]
  refine SQ.answer (rs := [.tmp 2, .tmp 3]) rfl rfl ?_
  simp -dsimp +decide (disch := first | omega | simp +decide only [bodpb15]) only [bodpb20, ↓brun_b, Nat.reduceBEq, rho]
theorem of_k12 (F : Frm) (hk : F.kind = 12) : Pure Try.prog 119 [.agg F.fc.c] (.tup [.ifc 246 (.agg (GT.c ⟨F.who, .v (.int .i64 F.pn), .v (.bool F.toA), F.key, .v (.int .i64 F.vn), F.vwho⟩)), .v (.bool true)]) := by
  refine SCall.mk (fn := Try.f119) (by kernel_rfl) rfl (Nat.le_of_ble_eq_true (by kernel_rfl)) ?_
  refine goC ?_
  simp -dsimp +decide (disch := first | omega | simp +decide only [bodpb15]) only [bodpb18, ↓brun_b, envOf, Nat.reduceAdd, Nat.reduceBEq, Frm.fc, hk]
  refine SQ.answer (rs := [.tmp 2, .tmp 3]) rfl rfl ?_
  simp -dsimp +decide (disch := first | omega | simp +decide only [bodpb15]) only [bodpb20, ↓brun_b, Nat.reduceBEq, rho]
theorem of_none (F : Frm) (hk : F.kind < 1 ∨ 12 < F.kind) : Pure Try.prog 119 [.agg F.fc.c] (.tup [.v .nilIface, .v (.bool false)]) := by
  have e : ∀ k : Int, 1 ≤ k → k ≤ 12 → decide (F.kind = k) = false := fun k h1 h2 => decide_eq_false (by omega)
  refine SCall.mk (fn := Try.f119) (by kernel_rfl) rfl (Nat.le_of_ble_eq_true (by kernel_rfl)) ?_
  refine goC ?_
  simp -dsimp +decide (disch := first | omega | simp +decide only [bodpb15]) only [bodpb3, ↓brun_b, envOf, Nat.reduceBEq, Frm.fc, e 1 (by decide) (by decide), e 2 (by decide) (by decide), e 3 (by decide) (by decide), e 4 (by decide) (by decide), e 5 (by decide) (by decide), e 6 (by decide) (by decide), e 7 (by decide) (by decide), e 8 (by decide) (by decide), e 9 (by decide) (by decide), e 10 (by decide) (by decide), e 11 (by decide) (by decide), e 12 (by decide) (by decide)]
  refine SQ.answer (rs := [.tmp 2, .tmp 3]) rfl rfl ?_
  simp -dsimp +decide (disch := first | omega | simp +decide only [bodpb15]) only [bodpb2, ↓brun_b, Nat.reduceBEq, rho]
end Go.Proofs
namespace Go.SL
open Go
theorem FC.set_it (x : FC) (k : I16) (u : SV) (v : I16) (t : SV) : splice x.c 58 (IC.c ⟨k, u, v, t⟩) = FC.c { x with key := k, vn := u, vwho := v, val := t } := FC.set_item x k u v t
end Go.SL
namespace Go.Proofs
open Go Go.SL
set_option maxRecDepth 100000
def bodpb24 :=
  (aI (aI (aI bodpc7 (aI @FC.set_from @FC.set_kind)) (aI (aI @FC.set_n @FC.set_to) (aI @FC.set_tx @bl151))) (aI (aI (aI @cells_bool @cells_int) (aI @cells_slc @tab.f151x0)) (aI (aI @tab.f151x13 @tab.f151x5) (aI @tab.f151x6 @tab.f151x7))))
theorem b151k2 (fi fn : Int) (ti tn : Int) (n : Int) (s k : Nat) : sBuild Try.prog 151 [(0, .v (.int .i64 2)), (6, .agg [.v (.int .i64 fi), .v (.int .i64 fn)]), (7, .agg [.v (.int .i64 ti), .v (.int .i64 tn)]), (5, .v (.int .i64 n)), (13, .slc s 0 k)] = some ⟨.agg (FC.c { zF with kind := .v (.int .i64 2), fi := .v (.int .i64 fi), fn := .v (.int .i64 fn), ti := .v (.int .i64 ti), tn := .v (.int .i64 tn), n := .v (.int .i64 n), tx := .slc s 0 k }), {}, True⟩ := by
  simp (disch := simp [FC.c_length, I16.c_length, IC.c_length]) only [bodpb24, Option.map_some]
def bodpb25 :=
  (aI (aI (aI bodpc7 (aI @FC.set_P @FC.set_a)) (aI (aI @FC.set_b @FC.set_kind) (aI @FC.set_tr @bl151))) (aI (aI (aI @cells_bool @cells_int) (aI @cells_slc @tab.f151x0)) (aI (aI @tab.f151x1 @tab.f151x3) (aI @tab.f151x4 @tab.f151x8))))
theorem b151k4 (who : I16) (pn : Int) (a : I16) (b : I16) (s k : Nat) : sBuild Try.prog 151 [(0, .v (.int .i64 4)), (1, .agg (who.c ++ [.v (.int .i64 pn)])), (3, .agg a.c), (4, .agg b.c), (8, .slc s 0 k)] = some ⟨.agg (FC.c { zF with kind := .v (.int .i64 4), who := who, pn := .v (.int .i64 pn), a := a, b := b, tr := .slc s 0 k }), {}, True⟩ := by
  simp (disch := simp [FC.c_length, I16.c_length, IC.c_length]) only [bodpb25, Option.map_some]
def bodpb26 :=
  (aI (aI (aI bodpc7 @FC.set_P) (aI @FC.set_kind @bl151)) (aI (aI @cells_bool @cells_int) (aI @cells_slc (aI @tab.f151x0 @tab.f151x1))))
theorem b151k5 (who : I16) (pn : Int) : sBuild Try.prog 151 [(0, .v (.int .i64 5)), (1, .agg (who.c ++ [.v (.int .i64 pn)]))] = some ⟨.agg (FC.c { zF with kind := .v (.int .i64 5), who := who, pn := .v (.int .i64 pn) }), {}, True⟩ := by
  simp (disch := simp [FC.c_length, I16.c_length, IC.c_length]) only [bodpb26, Option.map_some]
def bodpb27 :=
  (aI (aI (aI bodpc7 @FC.set_P) (aI @FC.set_kind (aI @FC.set_toA @bl151))) (aI (aI @cells_bool (aI @cells_int @cells_slc)) (aI @tab.f151x0 (aI @tab.f151x1 @tab.f151x2))))
theorem b151k6 (who : I16) (pn : Int) (toA : Bool) : sBuild Try.prog 151 [(0, .v (.int .i64 6)), (1, .agg (who.c ++ [.v (.int .i64 pn)])), (2, .v (.bool toA))] = some ⟨.agg (FC.c { zF with kind := .v (.int .i64 6), who := who, pn := .v (.int .i64 pn), toA := .v (.bool toA) }), {}, True⟩ := by
  simp (disch := simp [FC.c_length, I16.c_length, IC.c_length]) only [bodpb27, Option.map_some]
def bodpb28 :=
  (aI (aI (aI bodpc7 (aI @FC.set_P @FC.set_is)) (aI @FC.set_kind (aI @FC.set_toA @bl151))) (aI (aI @cells_bool (aI @cells_int @cells_slc)) (aI (aI @tab.f151x0 @tab.f151x1) (aI @tab.f151x2 @tab.f151x9))))
theorem b151k7 (who : I16) (pn : Int) (toA : Bool) (s k : Nat) : sBuild Try.prog 151 [(0, .v (.int .i64 7)), (1, .agg (who.c ++ [.v (.int .i64 pn)])), (2, .v (.bool toA)), (9, .slc s 0 k)] = some ⟨.agg (FC.c { zF with kind := .v (.int .i64 7), who := who, pn := .v (.int .i64 pn), toA := .v (.bool toA), is := .slc s 0 k }), {}, True⟩ := by
  simp (disch := simp [FC.c_length, I16.c_length, IC.c_length]) only [bodpb28, Option.map_some]
def bodpb29 :=
  (aI (aI (aI (aI bodpc7 @FC.set_P) (aI @FC.set_a @FC.set_b)) (aI (aI @FC.set_kind @FC.set_op) (aI @FC.set_toA (aI @FC.set_tr @bl151)))) (aI (aI (aI @cells_bool @cells_int) (aI @cells_slc (aI @tab.f151x0 @tab.f151x1))) (aI (aI @tab.f151x11 @tab.f151x2) (aI @tab.f151x3 (aI @tab.f151x4 @tab.f151x8)))))
theorem b151k8 (a : I16) (b : I16) (op : Int) (who : I16) (pn : Int) (toA : Bool) (s k : Nat) : sBuild Try.prog 151 [(0, .v (.int .i64 8)), (3, .agg a.c), (4, .agg b.c), (11, .v (.int .i64 op)), (1, .agg (who.c ++ [.v (.int .i64 pn)])), (2, .v (.bool toA)), (8, .slc s 0 k)] = some ⟨.agg (FC.c { zF with kind := .v (.int .i64 8), a := a, b := b, op := .v (.int .i64 op), who := who, pn := .v (.int .i64 pn), toA := .v (.bool toA), tr := .slc s 0 k }), {}, True⟩ := by
  simp (disch := simp [FC.c_length, I16.c_length, IC.c_length]) only [bodpb29, Option.map_some]
def bodpb30 :=
  (aI (aI (aI bodpc7 @FC.set_a) (aI @FC.set_kind (aI @FC.set_n @bl151))) (aI (aI @cells_bool (aI @cells_int @cells_slc)) (aI @tab.f151x0 (aI @tab.f151x3 @tab.f151x5))))
theorem b151k9 (a : I16) (n : Int) : sBuild Try.prog 151 [(0, .v (.int .i64 9)), (3, .agg a.c), (5, .v (.int .i64 n))] = some ⟨.agg (FC.c { zF with kind := .v (.int .i64 9), a := a, n := .v (.int .i64 n) }), {}, True⟩ := by
  simp (disch := simp [FC.c_length, I16.c_length, IC.c_length]) only [bodpb30, Option.map_some]
def bodpb31 :=
  (aI (aI (aI (aI bodpc7 @FC.set_a) (aI @FC.set_b (aI @FC.set_it @FC.set_kind))) (aI (aI @FC.set_n @FC.set_op) (aI @FC.set_ttl (aI @FC.set_tx @bl151)))) (aI (aI (aI @cells_bool @cells_int) (aI @cells_slc (aI @tab.f151x0 @tab.f151x10))) (aI (aI @tab.f151x11 (aI @tab.f151x12 @tab.f151x13)) (aI @tab.f151x3 (aI @tab.f151x4 @tab.f151x5)))))
theorem b151k10 (a : I16) (b : I16) (n : Int) (op : Int) (ttl : Int) (key vwho : I16) (vn : Int) (val : SV) (s k : Nat) : sBuild Try.prog 151 [(0, .v (.int .i64 10)), (3, .agg a.c), (4, .agg b.c), (5, .v (.int .i64 n)), (11, .v (.int .i64 op)), (12, .v (.int .i64 ttl)), (10, .agg (IC.c ⟨key, .v (.int .i64 vn), vwho, val⟩)), (13, .slc s 0 k)] = some ⟨.agg (FC.c { zF with kind := .v (.int .i64 10), a := a, b := b, n := .v (.int .i64 n), op := .v (.int .i64 op), ttl := .v (.int .i64 ttl), key := key, vn := .v (.int .i64 vn), vwho := vwho, val := val, tx := .slc s 0 k }), {}, True⟩ := by
  simp (disch := simp [FC.c_length, I16.c_length, IC.c_length]) only [bodpb31, Option.map_some]
def bodpb32 :=
  (aI (aI (aI bodpc7 (aI @FC.set_P @FC.set_it)) (aI @FC.set_kind (aI @FC.set_toA @bl151))) (aI (aI @cells_bool (aI @cells_int @cells_slc)) (aI (aI @tab.f151x0 @tab.f151x1) (aI @tab.f151x10 @tab.f151x2))))
theorem b151k11 (who : I16) (pn : Int) (toA : Bool) (key vwho : I16) (vn : Int) (val : SV) : sBuild Try.prog 151 [(0, .v (.int .i64 11)), (1, .agg (who.c ++ [.v (.int .i64 pn)])), (2, .v (.bool toA)), (10, .agg (IC.c ⟨key, .v (.int .i64 vn), vwho, val⟩))] = some ⟨.agg (FC.c { zF with kind := .v (.int .i64 11), who := who, pn := .v (.int .i64 pn), toA := .v (.bool toA), key := key, vn := .v (.int .i64 vn), vwho := vwho, val := val }), {}, True⟩ := by
  simp (disch := simp [FC.c_length, I16.c_length, IC.c_length]) only [bodpb32, Option.map_some]
theorem b151k12 (who : I16) (pn : Int) (toA : Bool) (key vwho : I16) (vn : Int) (val : SV) : sBuild Try.prog 151 [(0, .v (.int .i64 12)), (1, .agg (who.c ++ [.v (.int .i64 pn)])), (2, .v (.bool toA)), (10, .agg (IC.c ⟨key, .v (.int .i64 vn), vwho, val⟩))] = some ⟨.agg (FC.c { zF with kind := .v (.int .i64 12), who := who, pn := .v (.int .i64 pn), toA := .v (.bool toA), key := key, vn := .v (.int .i64 vn), vwho := vwho, val := val }), {}, True⟩ := by
  simp (disch := simp [FC.c_length, I16.c_length, IC.c_length]) only [bodpb32, Option.map_some]
def bodpb33 :=
  (aI (aI bodpc7 @IC.set_key) (aI @IC.set_ver (aI @tab.f149x0 @tab.f149x1)))
theorem b149 (key vwho : I16) (vn : Int) : sBuild Try.prog 149 [(0, .agg key.c), (1, .agg (.v (.int .i64 vn) :: vwho.c))] = some ⟨.agg (IC.c ⟨key, .v (.int .i64 vn), vwho, .v (.slice none 0 0)⟩), {}, True⟩ := by
  have e : sBuild Try.prog 149 [(0, .agg key.c), (1, .agg (.v (.int .i64 vn) :: vwho.c))] = sagg (sfill (fieldPlaceOf Try.prog 149) (IC.c ⟨I16.zero, .v (.int .i64 0), I16.zero, .v (.slice none 0 0)⟩) [(0, .agg key.c), (1, .agg (.v (.int .i64 vn) :: vwho.c))]) := by
    rw [sBuild_eq, tab.z149, tab.l149]; rfl
  rw [e]
  simp (disch := simp [IC.c_length, I16.c_length]) only [bodpb33, Option.map_some]
def bodpc10 :=
  (aI (aI (aI @AD.c_length @AK.c_length) (aI @CP.c_length @DR.c_length)) (aI (aI @GT.c_length @PE.c_length) (aI @PK.c_length (aI @PT.c_length @SU.c_length))))
def bodpb34 :=
  (aI (aI (aI (aI bodpc10 bodpc8) (aI bodpc0 @AD.flat)) (aI (aI @CP.flat @DR.flat) (aI @FC.c_length (aI @GT.flat @H1.c_length)))) (aI (aI (aI @I16.c_length @I16.flat) (aI @IC.c_length (aI @IC.flat @PT.flat))) (aI (aI @idrs_flat @idrs_len) (aI @lrows_flat (aI @lrows_length @zF.eq_1)))))
def bodpc11 :=
  (aI (aI (aI (aI (aI @AD.at_n (aI @AD.part_a @AD.set_all)) (aI (aI @AK.at_op @AK.at_toA) (aI @AK.at_tr @AK.part_P))) (aI (aI (aI @AK.part_a @AK.part_b) (aI @AK.set_all @CP.at_toA)) (aI (aI @CP.part_P @CP.part_it) (aI @CP.set_all @DR.part_P)))) (aI (aI (aI @DR.set_all (aI @FC.ent @GT.at_toA)) (aI (aI @GT.part_P @GT.part_key) (aI @GT.part_ver @GT.set_all))) (aI (aI (aI @PE.at_is @PE.at_toA) (aI @PE.part_P @PE.set_all)) (aI (aI @PK.at_n @PK.at_op) (aI @PK.at_ttl @PK.at_tx))))) (aI (aI (aI (aI @PK.part_a (aI @PK.part_b @PK.part_it)) (aI (aI @PK.set_all @PT.at_toA) (aI @PT.part_P @PT.set_all))) (aI (aI (aI @SU.at_tr @SU.part_P) (aI @SU.part_a @SU.part_b)) (aI (aI @SU.set_all @al226) (aI @al230 @al232)))) (aI (aI (aI (aI @al235 @al237) (aI @al239 @al241)) (aI (aI @al244 @al246) (aI @b149 @hit226))) (aI (aI (aI @hit230 @hit232) (aI @hit235 @hit237)) (aI (aI @hit239 @hit241) (aI @hit244 @hit246))))))
def bodpb35 :=
  (aI (aI (aI (aI (aI bodpc11 (aI bodpc10 bodpc1)) (aI bodpc3 (aI bodpc4 bodpc5))) (aI (aI bodpc6 (aI @FC.c_length @H1.c_length)) (aI @I16.c_length (aI @IC.at_val @IC.c_length)))) (aI (aI (aI @al149 (aI @b151k2 @hit210)) (aI @tab.f149x0 (aI @tab.f149x1 @tab.f151x0))) (aI (aI @tab.f151x1 (aI @tab.f151x10 @tab.f151x11)) (aI (aI @tab.f151x12 @tab.f151x13) (aI @tab.f151x2 @tab.f151x3))))) (aI (aI (aI (aI @tab.f151x4 (aI @tab.f151x5 @tab.f151x6)) (aI @tab.f151x7 (aI @tab.f151x8 @tab.f151x9))) (aI (aI @tab.f226x0 (aI @tab.f226x1 @tab.f226x2)) (aI @tab.f226x3 (aI @tab.f230x0 @tab.f232x0)))) (aI (aI (aI @tab.f232x1 (aI @tab.f235x0 @tab.f235x1)) (aI @tab.f235x2 (aI @tab.f239x0 @tab.f239x1))) (aI (aI @tab.f244x0 (aI @tab.f244x1 @tab.f244x2)) (aI (aI @tab.f246x0 @tab.f246x1) (aI @tab.f246x2 @tab.f246x3))))))
def bodpb36 :=
  (aI (aI (aI (aI (aI bodpc11 (aI bodpc10 bodpc1)) (aI bodpc3 (aI bodpc4 bodpc5))) (aI (aI bodpc6 (aI @FC.c_length @H1.c_length)) (aI @I16.c_length (aI @IC.at_val @IC.c_length)))) (aI (aI (aI @al149 (aI @b151k2 @tab.f149x0)) (aI @tab.f149x1 (aI @tab.f151x0 @tab.f151x1))) (aI (aI @tab.f151x10 (aI @tab.f151x11 @tab.f151x12)) (aI @tab.f151x13 (aI @tab.f151x2 @tab.f151x3))))) (aI (aI (aI (aI @tab.f151x4 (aI @tab.f151x5 @tab.f151x6)) (aI @tab.f151x7 (aI @tab.f151x8 @tab.f151x9))) (aI (aI @tab.f226x0 (aI @tab.f226x1 @tab.f226x2)) (aI @tab.f226x3 (aI @tab.f230x0 @tab.f232x0)))) (aI (aI (aI @tab.f232x1 (aI @tab.f235x0 @tab.f235x1)) (aI @tab.f235x2 (aI @tab.f239x0 @tab.f239x1))) (aI (aI @tab.f244x0 (aI @tab.f244x1 @tab.f244x2)) (aI (aI @tab.f246x0 @tab.f246x1) (aI @tab.f246x2 @tab.f246x3))))))
def bodpb37 :=
  (aI (aI (aI (aI (aI bodpc11 bodpc10) (aI bodpc1 (aI bodpc2 bodpc3))) (aI (aI bodpc4 (aI bodpc5 bodpc6)) (aI @FC.c_length (aI @H1.c_length @I16.c_length)))) (aI (aI (aI @al149 (aI @tab.f149x0 @tab.f149x1)) (aI @tab.f151x0 (aI @tab.f151x1 @tab.f151x10))) (aI (aI @tab.f151x11 (aI @tab.f151x12 @tab.f151x13)) (aI @tab.f151x2 (aI @tab.f151x3 @tab.f151x4))))) (aI (aI (aI (aI @tab.f151x5 (aI @tab.f151x6 @tab.f151x7)) (aI @tab.f151x8 (aI @tab.f151x9 @tab.f226x0))) (aI (aI @tab.f226x1 (aI @tab.f226x2 @tab.f226x3)) (aI @tab.f230x0 (aI @tab.f232x0 @tab.f232x1)))) (aI (aI (aI @tab.f235x0 (aI @tab.f235x1 @tab.f235x2)) (aI @tab.f239x0 (aI @tab.f239x1 @tab.f244x0))) (aI (aI @tab.f244x1 (aI @tab.f244x2 @tab.f246x0)) (aI @tab.f246x1 (aI @tab.f246x2 @tab.f246x3))))))
def bodpb38 :=
  (aI (aI (aI (aI (aI bodpc11 (aI bodpc10 bodpc1)) (aI bodpc2 (aI bodpc3 bodpc4))) (aI (aI bodpc5 (aI bodpc6 @FC.c_length)) (aI (aI @H1.c_length @I16.c_length) (aI @al149 @bwk_a)))) (aI (aI (aI @eq_self.{1} (aI @forall_const.{1} @implies_true.{0})) (aI @implies_true.{1} (aI @tab.f149x0 @tab.f149x1))) (aI (aI @tab.f151x0 (aI @tab.f151x1 @tab.f151x10)) (aI (aI @tab.f151x11 @tab.f151x12) (aI @tab.f151x13 @tab.f151x2))))) (aI (aI (aI (aI @tab.f151x3 (aI @tab.f151x4 @tab.f151x5)) (aI @tab.f151x6 (aI @tab.f151x7 @tab.f151x8))) (aI (aI @tab.f151x9 (aI @tab.f226x0 @tab.f226x1)) (aI (aI @tab.f226x2 @tab.f226x3) (aI @tab.f230x0 @tab.f232x0)))) (aI (aI (aI @tab.f232x1 (aI @tab.f235x0 @tab.f235x1)) (aI @tab.f235x2 (aI @tab.f239x0 @tab.f239x1))) (aI (aI @tab.f244x0 (aI @tab.f244x1 @tab.f244x2)) (aI (aI @tab.f246x0 @tab.f246x1) (aI @tab.f246x2 @tab.f246x3))))))
theorem plain_k2 (fi fn : Int) (ti tn : Int) (n : Int) (tx : List UInt8) (h10 : tx.length ≤ 140737488355328) : Pure Try.prog 123 [.ifc 210 (.agg ([.v (.int .i64 fi), .v (.int .i64 fn), .v (.int .i64 ti), .v (.int .i64 tn), .v (.int .i64 n), bsl tx]))] (.agg (FC.c { zF with kind := .v (.int .i64 2), fi := .v (.int .i64 fi), fn := .v (.int .i64 fn), ti := .v (.int .i64 ti), tn := .v (.int .i64 tn), n := .v (.int .i64 n), tx := bsl tx })) := by
  refine SCall.mk (fn := Try.f123) (by kernel_rfl) rfl (Nat.le_of_ble_eq_true (by kernel_rfl)) ?_
  refine goC ?_
  simp -dsimp +decide (disch := first | omega | simp +decide only [bodpb34]) only [bodpb35, ↓brun_b, envOf, Nat.reduceAdd, Nat.reduceBEq, fun v => miss214 210 v (by decide)]
  refine Sem.draw' (by kernel_rfl) (.one 0 (.one 1 (.one 2 (.one 3 (.one 4 (.one 5 (.one 6 (.one 7 (.alt 8 (.one 9 (.alt 10 .done .non)) .non))))))))) [0] (by kernel_rfl) (fun G ff hG hf => ?_)
  simp +decide only [bodpb4, Nat.reduceAdd] at hG ⊢
  simp -dsimp +decide (disch := first | omega | simp +decide only [bodpb34]) only [bodpb36, ↓brun_b, Nat.reduceAdd, Nat.reduceBEq, hG, sapp1_sl el5, h10]
  refine hf _ (Sem.go (k := 1000) ?_)
  simp +decide only [back_mk, backL_in, backL_row, backL_nil, Nat.zero_add, Nat.reduceAdd]
  simp -dsimp +decide (disch := first | omega | simp +decide only [bodpb34]) only [bodpb37]
  refine SQ.answer (rs := [.cell 2 151]) rfl rfl ?_
  simp -dsimp +decide (disch := first | omega | simp +decide only [bodpb34]) only [bodpb38, ↓brun_b, reduceIte, Nat.reduceAdd, Nat.reduceBEq, rho, ↓reduceIte]
  exact Ent_row rfl rfl (brows_length _).symm (by omega) fun i r hr => app_row _ (flatR_brows _) i r hr
def bodpb39 :=
  (aI (aI (aI (aI (aI bodpc11 (aI bodpc10 bodpc1)) (aI bodpc3 (aI bodpc4 bodpc5))) (aI (aI bodpc6 (aI @FC.c_length @H1.c_length)) (aI @I16.c_length (aI @IC.at_val @IC.c_length)))) (aI (aI (aI @al149 (aI @b151k4 @hit210)) (aI @tab.f149x0 (aI @tab.f149x1 @tab.f151x0))) (aI (aI @tab.f151x1 (aI @tab.f151x10 @tab.f151x11)) (aI (aI @tab.f151x12 @tab.f151x13) (aI @tab.f151x2 @tab.f151x3))))) (aI (aI (aI (aI @tab.f151x4 (aI @tab.f151x5 @tab.f151x6)) (aI @tab.f151x7 (aI @tab.f151x8 @tab.f151x9))) (aI (aI @tab.f226x0 (aI @tab.f226x1 @tab.f226x2)) (aI @tab.f226x3 (aI @tab.f230x0 @tab.f232x0)))) (aI (aI (aI @tab.f232x1 (aI @tab.f235x0 @tab.f235x1)) (aI @tab.f235x2 (aI @tab.f239x0 @tab.f239x1))) (aI (aI @tab.f244x0 (aI @tab.f244x1 @tab.f244x2)) (aI (aI @tab.f246x0 @tab.f246x1) (aI @tab.f246x2 @tab.f246x3))))))
def bodpb40 :=
  (aI (aI (aI (aI (aI bodpc11 (aI bodpc10 bodpc1)) (aI bodpc3 (aI bodpc4 bodpc5))) (aI (aI bodpc6 (aI @FC.c_length @H1.c_length)) (aI @I16.c_length (aI @IC.at_val @IC.c_length)))) (aI (aI (aI @al149 (aI @b151k4 @lrows_length)) (aI @tab.f149x0 (aI @tab.f149x1 @tab.f151x0))) (aI (aI @tab.f151x1 (aI @tab.f151x10 @tab.f151x11)) (aI (aI @tab.f151x12 @tab.f151x13) (aI @tab.f151x2 @tab.f151x3))))) (aI (aI (aI (aI @tab.f151x4 (aI @tab.f151x5 @tab.f151x6)) (aI @tab.f151x7 (aI @tab.f151x8 @tab.f151x9))) (aI (aI @tab.f226x0 (aI @tab.f226x1 @tab.f226x2)) (aI @tab.f226x3 (aI @tab.f230x0 @tab.f232x0)))) (aI (aI (aI @tab.f232x1 (aI @tab.f235x0 @tab.f235x1)) (aI @tab.f235x2 (aI @tab.f239x0 @tab.f239x1))) (aI (aI @tab.f244x0 (aI @tab.f244x1 @tab.f244x2)) (aI (aI @tab.f246x0 @tab.f246x1) (aI @tab.f246x2 @tab.f246x3))))))
theorem plain_k4 (who : I16) (pn : Int) (a : I16) (b : I16) (tr : List Int) (h8 : tr.length * 8 ≤ 140737488355328) : Pure Try.prog 123 [.ifc 226 (.agg (SU.c ⟨who, .v (.int .i64 pn), a, b, .rsl 1 (lrows tr)⟩))] (.agg (FC.c { zF with kind := .v (.int .i64 4), who := who, pn := .v (.int .i64 pn), a := a, b := b, tr := .rsl 1 (lrows tr) })) := by
  refine SCall.mk (fn := Try.f123) (by kernel_rfl) rfl (Nat.le_of_ble_eq_true (by kernel_rfl)) ?_
  refine goC ?_
  simp -dsimp +decide (disch := first | omega | simp +decide only [bodpb34]) only [bodpb39, ↓brun_b, envOf, Nat.reduceAdd, Nat.reduceBEq, fun v => miss214 226 v (by decide), fun v => miss210 226 v (by decide), fun v => miss218 226 v (by decide)]
  refine Sem.draw' (by kernel_rfl) (.one 0 (.one 1 (.one 2 (.one 3 (.one 4 (.one 5 (.one 6 (.one 7 (.alt 8 (.one 9 (.alt 10 .done .non)) .non))))))))) [0] (by kernel_rfl) (fun G ff hG hf => ?_)
  simp +decide only [bodpb4, Nat.reduceAdd] at hG ⊢
  simp -dsimp +decide (disch := first | omega | simp +decide only [bodpb34]) only [bodpb40, ↓brun_b, Nat.reduceAdd, Nat.reduceBEq, hG, sapp1_sl elN3, h8]
  refine hf _ (Sem.go (k := 1000) ?_)
  simp +decide only [back_mk, backL_in, backL_row, backL_nil, Nat.zero_add, Nat.reduceAdd]
  simp -dsimp +decide (disch := first | omega | simp +decide only [bodpb34]) only [bodpb37]
  refine SQ.answer (rs := [.cell 2 151]) rfl rfl ?_
  simp -dsimp +decide (disch := first | omega | simp +decide only [bodpb34]) only [bodpb38, ↓brun_b, reduceIte, Nat.reduceAdd, Nat.reduceBEq, rho, ↓reduceIte]
  exact Ent_row rfl rfl (lrows_length _).symm (by omega) fun i r hr => app_row _ (lrows_flat _) i r hr
def bodpb41 :=
  (aI (aI (aI (aI (aI bodpc11 (aI bodpc10 bodpc1)) (aI bodpc3 (aI bodpc4 bodpc5))) (aI (aI bodpc6 (aI @FC.c_length @H1.c_length)) (aI @I16.c_length (aI @IC.at_val @IC.c_length)))) (aI (aI (aI @al149 (aI @b151k5 @hit210)) (aI @tab.f149x0 (aI @tab.f149x1 @tab.f151x0))) (aI (aI @tab.f151x1 (aI @tab.f151x10 @tab.f151x11)) (aI (aI @tab.f151x12 @tab.f151x13) (aI @tab.f151x2 @tab.f151x3))))) (aI (aI (aI (aI @tab.f151x4 (aI @tab.f151x5 @tab.f151x6)) (aI @tab.f151x7 (aI @tab.f151x8 @tab.f151x9))) (aI (aI @tab.f226x0 (aI @tab.f226x1 @tab.f226x2)) (aI @tab.f226x3 (aI @tab.f230x0 @tab.f232x0)))) (aI (aI (aI @tab.f232x1 (aI @tab.f235x0 @tab.f235x1)) (aI @tab.f235x2 (aI @tab.f239x0 @tab.f239x1))) (aI (aI @tab.f244x0 (aI @tab.f244x1 @tab.f244x2)) (aI (aI @tab.f246x0 @tab.f246x1) (aI @tab.f246x2 @tab.f246x3))))))
theorem plain_k5 (who : I16) (pn : Int) : Pure Try.prog 123 [.ifc 230 (.agg (DR.c ⟨who, .v (.int .i64 pn)⟩))] (.agg (FC.c { zF with kind := .v (.int .i64 5), who := who, pn := .v (.int .i64 pn) })) := by
  refine SCall.mk (fn := Try.f123) (by kernel_rfl) rfl (Nat.le_of_ble_eq_true (by kernel_rfl)) ?_
  refine goC ?_
  simp -dsimp +decide (disch := first | omega | simp +decide only [bodpb34]) only [bodpb41, ↓brun_b, envOf, Nat.reduceAdd, Nat.reduceBEq, fun v => miss214 230 v (by decide), fun v => miss210 230 v (by decide), fun v => miss218 230 v (by decide), fun v => miss226 230 v (by decide)]
  refine SQ.answer (rs := [.cell 2 151]) rfl rfl ?_
  simp -dsimp +decide (disch := first | omega | simp +decide only [bodpb34]) only [bodpb38, ↓brun_b, Nat.reduceAdd, Nat.reduceBEq, rho]
def bodpb42 :=
  (aI (aI (aI (aI (aI bodpc11 (aI bodpc10 bodpc1)) (aI bodpc3 (aI bodpc4 bodpc5))) (aI (aI bodpc6 (aI @FC.c_length @H1.c_length)) (aI @I16.c_length (aI @IC.at_val @IC.c_length)))) (aI (aI (aI @al149 (aI @b151k6 @hit210)) (aI @tab.f149x0 (aI @tab.f149x1 @tab.f151x0))) (aI (aI @tab.f151x1 (aI @tab.f151x10 @tab.f151x11)) (aI (aI @tab.f151x12 @tab.f151x13) (aI @tab.f151x2 @tab.f151x3))))) (aI (aI (aI (aI @tab.f151x4 (aI @tab.f151x5 @tab.f151x6)) (aI @tab.f151x7 (aI @tab.f151x8 @tab.f151x9))) (aI (aI @tab.f226x0 (aI @tab.f226x1 @tab.f226x2)) (aI @tab.f226x3 (aI @tab.f230x0 @tab.f232x0)))) (aI (aI (aI @tab.f232x1 (aI @tab.f235x0 @tab.f235x1)) (aI @tab.f235x2 (aI @tab.f239x0 @tab.f239x1))) (aI (aI @tab.f244x0 (aI @tab.f244x1 @tab.f244x2)) (aI (aI @tab.f246x0 @tab.f246x1) (aI @tab.f246x2 @tab.f246x3))))))
theorem plain_k6 (who : I16) (pn : Int) (toA : Bool) : Pure Try.prog 123 [.ifc 232 (.agg (PT.c ⟨who, .v (.int .i64 pn), .v (.bool toA)⟩))] (.agg (FC.c { zF with kind := .v (.int .i64 6), who := who, pn := .v (.int .i64 pn), toA := .v (.bool toA) })) := by
  refine SCall.mk (fn := Try.f123) (by kernel_rfl) rfl (Nat.le_of_ble_eq_true (by kernel_rfl)) ?_
  refine goC ?_
  simp -dsimp +decide (disch := first | omega | simp +decide only [bodpb34]) only [bodpb42, ↓brun_b, envOf, Nat.reduceAdd, Nat.reduceBEq, fun v => miss214 232 v (by decide), fun v => miss210 232 v (by decide), fun v => miss218 232 v (by decide), fun v => miss226 232 v (by decide), fun v => miss230 232 v (by decide)]
  refine SQ.answer (rs := [.cell 2 151]) rfl rfl ?_
  simp -dsimp +decide (disch := first | omega | simp +decide only [bodpb34]) only [bodpb38, ↓brun_b, Nat.reduceAdd, Nat.reduceBEq, rho]
def bodpb43 :=
  (aI (aI (aI (aI (aI bodpc11 (aI bodpc10 bodpc1)) (aI bodpc3 (aI bodpc4 bodpc5))) (aI (aI bodpc6 (aI @FC.c_length @H1.c_length)) (aI @I16.c_length (aI @IC.at_val @IC.c_length)))) (aI (aI (aI @al149 (aI @b151k7 @hit210)) (aI @tab.f149x0 (aI @tab.f149x1 @tab.f151x0))) (aI (aI @tab.f151x1 (aI @tab.f151x10 @tab.f151x11)) (aI (aI @tab.f151x12 @tab.f151x13) (aI @tab.f151x2 @tab.f151x3))))) (aI (aI (aI (aI @tab.f151x4 (aI @tab.f151x5 @tab.f151x6)) (aI @tab.f151x7 (aI @tab.f151x8 @tab.f151x9))) (aI (aI @tab.f226x0 (aI @tab.f226x1 @tab.f226x2)) (aI @tab.f226x3 (aI @tab.f230x0 @tab.f232x0)))) (aI (aI (aI @tab.f232x1 (aI @tab.f235x0 @tab.f235x1)) (aI @tab.f235x2 (aI @tab.f239x0 @tab.f239x1))) (aI (aI @tab.f244x0 (aI @tab.f244x1 @tab.f244x2)) (aI (aI @tab.f246x0 @tab.f246x1) (aI @tab.f246x2 @tab.f246x3))))))
def bodpb44 :=
  (aI (aI (aI (aI (aI bodpc11 (aI bodpc10 bodpc1)) (aI bodpc3 (aI bodpc4 bodpc5))) (aI (aI bodpc6 (aI @FC.c_length @H1.c_length)) (aI @I16.c_length (aI @IC.at_val @IC.c_length)))) (aI (aI (aI @al149 (aI @b151k7 @idrs_len)) (aI @tab.f149x0 (aI @tab.f149x1 @tab.f151x0))) (aI (aI @tab.f151x1 (aI @tab.f151x10 @tab.f151x11)) (aI (aI @tab.f151x12 @tab.f151x13) (aI @tab.f151x2 @tab.f151x3))))) (aI (aI (aI (aI @tab.f151x4 (aI @tab.f151x5 @tab.f151x6)) (aI @tab.f151x7 (aI @tab.f151x8 @tab.f151x9))) (aI (aI @tab.f226x0 (aI @tab.f226x1 @tab.f226x2)) (aI @tab.f226x3 (aI @tab.f230x0 @tab.f232x0)))) (aI (aI (aI @tab.f232x1 (aI @tab.f235x0 @tab.f235x1)) (aI @tab.f235x2 (aI @tab.f239x0 @tab.f239x1))) (aI (aI @tab.f244x0 (aI @tab.f244x1 @tab.f244x2)) (aI (aI @tab.f246x0 @tab.f246x1) (aI @tab.f246x2 @tab.f246x3))))))
theorem plain_k7 (who : I16) (pn : Int) (toA : Bool) (ids : List I16) (h9 : ids.length * 16 ≤ 140737488355328) : Pure Try.prog 123 [.ifc 235 (.agg (PE.c ⟨who, .v (.int .i64 pn), .v (.bool toA), .rsl 16 (idrs ids)⟩))] (.agg (FC.c { zF with kind := .v (.int .i64 7), who := who, pn := .v (.int .i64 pn), toA := .v (.bool toA), is := .rsl 16 (idrs ids) })) := by
  refine SCall.mk (fn := Try.f123) (by kernel_rfl) rfl (Nat.le_of_ble_eq_true (by kernel_rfl)) ?_
  refine goC ?_
  simp -dsimp +decide (disch := first | omega | simp +decide only [bodpb34]) only [bodpb43, ↓brun_b, envOf, Nat.reduceAdd, Nat.reduceBEq, fun v => miss214 235 v (by decide), fun v => miss210 235 v (by decide), fun v => miss218 235 v (by decide), fun v => miss226 235 v (by decide), fun v => miss230 235 v (by decide), fun v => miss232 235 v (by decide)]
  refine Sem.draw' (by kernel_rfl) (.one 0 (.one 1 (.one 2 (.one 3 (.one 4 (.one 5 (.alt 6 (.one 7 (.alt 8 .done .non)) .non))))))) [0] (by kernel_rfl) (fun G ff hG hf => ?_)
  simp +decide only [bodpb4, Nat.reduceAdd] at hG ⊢
  simp -dsimp +decide (disch := first | omega | simp +decide only [bodpb34]) only [bodpb44, ↓brun_b, Nat.reduceAdd, Nat.reduceBEq, hG, sapp1_sl elN23, h9]
  refine hf _ (Sem.go (k := 1000) ?_)
  simp +decide only [back_mk, backL_in, backL_row, backL_nil, Nat.zero_add, Nat.reduceAdd]
  simp -dsimp +decide (disch := first | omega | simp +decide only [bodpb34]) only [bodpb37]
  refine SQ.answer (rs := [.cell 2 151]) rfl rfl ?_
  simp -dsimp +decide (disch := first | omega | simp +decide only [bodpb34]) only [bodpb38, ↓brun_b, reduceIte, Nat.reduceAdd, Nat.reduceBEq, rho, ↓reduceIte]
  exact Ent_row rfl rfl (idrs_len _).symm (by omega) fun i r hr => app_row _ (idrs_flat _) i r hr
def bodpb45 :=
  (aI (aI (aI (aI (aI bodpc11 (aI bodpc10 bodpc1)) (aI bodpc3 (aI bodpc4 bodpc5))) (aI (aI bodpc6 (aI @FC.c_length @H1.c_length)) (aI @I16.c_length (aI @IC.at_val @IC.c_length)))) (aI (aI (aI @al149 (aI @b151k8 @hit210)) (aI @tab.f149x0 (aI @tab.f149x1 @tab.f151x0))) (aI (aI @tab.f151x1 (aI @tab.f151x10 @tab.f151x11)) (aI (aI @tab.f151x12 @tab.f151x13) (aI @tab.f151x2 @tab.f151x3))))) (aI (aI (aI (aI @tab.f151x4 (aI @tab.f151x5 @tab.f151x6)) (aI @tab.f151x7 (aI @tab.f151x8 @tab.f151x9))) (aI (aI @tab.f226x0 (aI @tab.f226x1 @tab.f226x2)) (aI @tab.f226x3 (aI @tab.f230x0 @tab.f232x0)))) (aI (aI (aI @tab.f232x1 (aI @tab.f235x0 @tab.f235x1)) (aI @tab.f235x2 (aI @tab.f239x0 @tab.f239x1))) (aI (aI @tab.f244x0 (aI @tab.f244x1 @tab.f244x2)) (aI (aI @tab.f246x0 @tab.f246x1) (aI @tab.f246x2 @tab.f246x3))))))
def bodpb46 :=
  (aI (aI (aI (aI (aI bodpc11 (aI bodpc10 bodpc1)) (aI bodpc3 (aI bodpc4 bodpc5))) (aI (aI bodpc6 (aI @FC.c_length @H1.c_length)) (aI @I16.c_length (aI @IC.at_val @IC.c_length)))) (aI (aI (aI @al149 (aI @b151k8 @lrows_length)) (aI @tab.f149x0 (aI @tab.f149x1 @tab.f151x0))) (aI (aI @tab.f151x1 (aI @tab.f151x10 @tab.f151x11)) (aI (aI @tab.f151x12 @tab.f151x13) (aI @tab.f151x2 @tab.f151x3))))) (aI (aI (aI (aI @tab.f151x4 (aI @tab.f151x5 @tab.f151x6)) (aI @tab.f151x7 (aI @tab.f151x8 @tab.f151x9))) (aI (aI @tab.f226x0 (aI @tab.f226x1 @tab.f226x2)) (aI @tab.f226x3 (aI @tab.f230x0 @tab.f232x0)))) (aI (aI (aI @tab.f232x1 (aI @tab.f235x0 @tab.f235x1)) (aI @tab.f235x2 (aI @tab.f239x0 @tab.f239x1))) (aI (aI @tab.f244x0 (aI @tab.f244x1 @tab.f244x2)) (aI (aI @tab.f246x0 @tab.f246x1) (aI @tab.f246x2 @tab.f246x3))))))
theorem plain_k8 (a : I16) (b : I16) (op : Int) (who : I16) (pn : Int) (toA : Bool) (tr : List Int) (h8 : tr.length * 8 ≤ 140737488355328) : Pure Try.prog 123 [.ifc 237 (.agg (AK.c ⟨a, b, .v (.int .i64 op), who, .v (.int .i64 pn), .v (.bool toA), .rsl 1 (lrows tr)⟩))] (.agg (FC.c { zF with kind := .v (.int .i64 8), a := a, b := b, op := .v (.int .i64 op), who := who, pn := .v (.int .i64 pn), toA := .v (.bool toA), tr := .rsl 1 (lrows tr) })) := by
  refine SCall.mk (fn := Try.f123) (by kernel_rfl) rfl (Nat.le_of_ble_eq_true (by kernel_rfl)) ?_
  refine goC ?_
  simp -dsimp +decide (disch := first | omega | simp +decide only [bodpb34]) only [bodpb45, ↓brun_b, envOf, Nat.reduceAdd, Nat.reduceBEq, fun v => miss214 237 v (by decide), fun v => miss210 237 v (by decide), fun v => miss218 237 v (by decide), fun v => miss226 237 v (by decide), fun v => miss230 237 v (by decide), fun v => miss232 237 v (by decide), fun v => miss235 237 v (by decide)]
  refine Sem.draw' (by kernel_rfl) (.one 0 (.one 1 (.one 2 (.one 3 (.one 4 (.one 5 (.one 6 (.one 7 (.one 8 (.one 9 (.one 10 (.one 11 (.alt 12 (.one 13 (.alt 14 .done .non)) .non))))))))))))) [0] (by kernel_rfl) (fun G ff hG hf => ?_)
  simp +decide only [bodpb4, Nat.reduceAdd] at hG ⊢
  simp -dsimp +decide (disch := first | omega | simp +decide only [bodpb34]) only [bodpb46, ↓brun_b, Nat.reduceAdd, Nat.reduceBEq, hG, sapp1_sl elN3, h8]
  refine hf _ (Sem.go (k := 1000) ?_)
  simp +decide only [back_mk, backL_in, backL_row, backL_nil, Nat.zero_add, Nat.reduceAdd]
  simp -dsimp +decide (disch := first | omega | simp +decide only [bodpb34]) only [bodpb37]
  refine SQ.answer (rs := [.cell 2 151]) rfl rfl ?_
  simp -dsimp +decide (disch := first | omega | simp +decide only [bodpb34]) only [bodpb38, ↓brun_b, reduceIte, Nat.reduceAdd, Nat.reduceBEq, rho, ↓reduceIte]
  exact Ent_row rfl rfl (lrows_length _).symm (by omega) fun i r hr => app_row _ (lrows_flat _) i r hr
def bodpb47 :=
  (aI (aI (aI (aI (aI bodpc11 (aI bodpc10 bodpc1)) (aI bodpc3 (aI bodpc4 bodpc5))) (aI (aI bodpc6 (aI @FC.c_length @H1.c_length)) (aI @I16.c_length (aI @IC.at_val @IC.c_length)))) (aI (aI (aI @al149 (aI @b151k9 @hit210)) (aI @tab.f149x0 (aI @tab.f149x1 @tab.f151x0))) (aI (aI @tab.f151x1 (aI @tab.f151x10 @tab.f151x11)) (aI (aI @tab.f151x12 @tab.f151x13) (aI @tab.f151x2 @tab.f151x3))))) (aI (aI (aI (aI @tab.f151x4 (aI @tab.f151x5 @tab.f151x6)) (aI @tab.f151x7 (aI @tab.f151x8 @tab.f151x9))) (aI (aI @tab.f226x0 (aI @tab.f226x1 @tab.f226x2)) (aI @tab.f226x3 (aI @tab.f230x0 @tab.f232x0)))) (aI (aI (aI @tab.f232x1 (aI @tab.f235x0 @tab.f235x1)) (aI @tab.f235x2 (aI @tab.f239x0 @tab.f239x1))) (aI (aI @tab.f244x0 (aI @tab.f244x1 @tab.f244x2)) (aI (aI @tab.f246x0 @tab.f246x1) (aI @tab.f246x2 @tab.f246x3))))))
theorem plain_k9 (a : I16) (n : Int) : Pure Try.prog 123 [.ifc 239 (.agg (AD.c ⟨a, .v (.int .i64 n)⟩))] (.agg (FC.c { zF with kind := .v (.int .i64 9), a := a, n := .v (.int .i64 n) })) := by
  refine SCall.mk (fn := Try.f123) (by kernel_rfl) rfl (Nat.le_of_ble_eq_true (by kernel_rfl)) ?_
  refine goC ?_
  simp -dsimp +decide (disch := first | omega | simp +decide only [bodpb34]) only [bodpb47, ↓brun_b, envOf, Nat.reduceAdd, Nat.reduceBEq, fun v => miss214 239 v (by decide), fun v => miss210 239 v (by decide), fun v => miss218 239 v (by decide), fun v => miss226 239 v (by decide), fun v => miss230 239 v (by decide), fun v => miss232 239 v (by decide), fun v => miss235 239 v (by decide), fun v => miss237 239 v (by decide)]
  refine SQ.answer (rs := [.cell 2 151]) rfl rfl ?_
  simp -dsimp +decide (disch := first | omega | simp +decide only [bodpb34]) only [bodpb38, ↓brun_b, Nat.reduceAdd, Nat.reduceBEq, rho]
def bodpb48 :=
  (aI (aI (aI (aI (aI bodpc11 (aI bodpc10 bodpc1)) (aI bodpc3 (aI bodpc4 bodpc5))) (aI (aI bodpc6 (aI @FC.c_length @H1.c_length)) (aI @I16.c_length (aI @IC.at_val @IC.c_length)))) (aI (aI (aI @al149 (aI @b151k10 @hit210)) (aI @tab.f149x0 (aI @tab.f149x1 @tab.f151x0))) (aI (aI @tab.f151x1 (aI @tab.f151x10 @tab.f151x11)) (aI (aI @tab.f151x12 @tab.f151x13) (aI @tab.f151x2 @tab.f151x3))))) (aI (aI (aI (aI @tab.f151x4 (aI @tab.f151x5 @tab.f151x6)) (aI @tab.f151x7 (aI @tab.f151x8 @tab.f151x9))) (aI (aI @tab.f226x0 (aI @tab.f226x1 @tab.f226x2)) (aI @tab.f226x3 (aI @tab.f230x0 @tab.f232x0)))) (aI (aI (aI @tab.f232x1 (aI @tab.f235x0 @tab.f235x1)) (aI @tab.f235x2 (aI @tab.f239x0 @tab.f239x1))) (aI (aI @tab.f244x0 (aI @tab.f244x1 @tab.f244x2)) (aI (aI @tab.f246x0 @tab.f246x1) (aI @tab.f246x2 @tab.f246x3))))))
def bodpb49 :=
  (aI (aI (aI (aI (aI bodpc11 (aI bodpc10 bodpc1)) (aI bodpc3 (aI bodpc4 bodpc5))) (aI (aI bodpc6 (aI @FC.c_length @H1.c_length)) (aI @I16.c_length (aI @IC.at_val @IC.c_length)))) (aI (aI (aI @al149 (aI @b151k10 @tab.f149x0)) (aI @tab.f149x1 (aI @tab.f151x0 @tab.f151x1))) (aI (aI @tab.f151x10 (aI @tab.f151x11 @tab.f151x12)) (aI @tab.f151x13 (aI @tab.f151x2 @tab.f151x3))))) (aI (aI (aI (aI @tab.f151x4 (aI @tab.f151x5 @tab.f151x6)) (aI @tab.f151x7 (aI @tab.f151x8 @tab.f151x9))) (aI (aI @tab.f226x0 (aI @tab.f226x1 @tab.f226x2)) (aI @tab.f226x3 (aI @tab.f230x0 @tab.f232x0)))) (aI (aI (aI @tab.f232x1 (aI @tab.f235x0 @tab.f235x1)) (aI @tab.f235x2 (aI @tab.f239x0 @tab.f239x1))) (aI (aI @tab.f244x0 (aI @tab.f244x1 @tab.f244x2)) (aI (aI @tab.f246x0 @tab.f246x1) (aI @tab.f246x2 @tab.f246x3))))))
theorem plain_k10 (a : I16) (b : I16) (n : Int) (op : Int) (ttl : Int) (key vwho : I16) (vn : Int) (val : List UInt8) (h11 : val.length ≤ 140737488355328) (tx : List UInt8) (h10 : tx.length ≤ 140737488355328) : Pure Try.prog 123 [.ifc 241 (.agg (PK.c ⟨a, b, .v (.int .i64 n), .v (.int .i64 op), .v (.int .i64 ttl), key, .v (.int .i64 vn), vwho, bsl val, bsl tx⟩))] (.agg (FC.c { zF with kind := .v (.int .i64 10), a := a, b := b, n := .v (.int .i64 n), op := .v (.int .i64 op), ttl := .v (.int .i64 ttl), key := key, vn := .v (.int .i64 vn), vwho := vwho, val := bsl val, tx := bsl tx })) := by
  refine SCall.mk (fn := Try.f123) (by kernel_rfl) rfl (Nat.le_of_ble_eq_true (by kernel_rfl)) ?_
  refine goC ?_
  simp -dsimp +decide (disch := first | omega | simp +decide only [bodpb34]) only [bodpb48, ↓brun_b, envOf, Nat.reduceAdd, Nat.reduceBEq, fun v => miss214 241 v (by decide), fun v => miss210 241 v (by decide), fun v => miss218 241 v (by decide), fun v => miss226 241 v (by decide), fun v => miss230 241 v (by decide), fun v => miss232 241 v (by decide), fun v => miss235 241 v (by decide), fun v => miss237 241 v (by decide), fun v => miss239 241 v (by decide)]
  refine Sem.draw' (by kernel_rfl) (.one 0 (.one 1 (.one 2 (.one 3 (.one 4 (.one 5 (.one 6 (.one 7 (.one 8 (.one 9 (.one 10 (.one 11 (.one 13 (.one 14 (.alt 12 (.alt 15 (.one 16 (.alt 17 .done .non)) .non) .non))))))))))))))) [0] (by kernel_rfl) (fun G ff hG hf => ?_)
  simp +decide only [bodpb4, Nat.reduceAdd] at hG ⊢
  simp -dsimp +decide (disch := first | omega | simp +decide only [bodpb34]) only [bodpb49, ↓brun_b, Nat.reduceAdd, Nat.reduceBEq, hG]
  refine OpSem.callq cal.f167 (item_calls key vwho vn val h11) rfl rfl rfl (by simp only [bflat_a, bodpb22]) (by simp only [bflat_a, bodpb22]) (dK rfl) ?_
  simp -dsimp +decide (disch := first | omega | simp +decide only [bodpb34]) only [bodpb49, ↓brun_b, Nat.reduceAdd, Nat.reduceBEq, sapp1_sl el5, h10]
  refine hf _ (Sem.go (k := 1000) ?_)
  simp +decide only [back_mk, backL_in, backL_row, backL_nil, Nat.zero_add, Nat.reduceAdd]
  simp -dsimp +decide (disch := first | omega | simp +decide only [bodpb34]) only [bodpb37]
  refine SQ.answer (rs := [.cell 2 151]) rfl rfl ?_
  simp -dsimp +decide (disch := first | omega | simp +decide only [bodpb34]) only [bodpb38, ↓brun_b, reduceIte, Nat.reduceAdd, Nat.reduceBEq, rho, ↓reduceIte]
  exact Ent_row rfl rfl (brows_length _).symm (by omega) fun i r hr => app_row _ (flatR_brows _) i r hr
def bodpb50 :=
  (aI (aI (aI (aI (aI bodpc11 (aI bodpc10 bodpc1)) (aI bodpc3 (aI bodpc4 bodpc5))) (aI (aI bodpc6 (aI @FC.c_length @H1.c_length)) (aI @I16.c_length (aI @IC.at_val @IC.c_length)))) (aI (aI (aI @al149 (aI @b151k11 @hit210)) (aI @tab.f149x0 (aI @tab.f149x1 @tab.f151x0))) (aI (aI @tab.f151x1 (aI @tab.f151x10 @tab.f151x11)) (aI (aI @tab.f151x12 @tab.f151x13) (aI @tab.f151x2 @tab.f151x3))))) (aI (aI (aI (aI @tab.f151x4 (aI @tab.f151x5 @tab.f151x6)) (aI @tab.f151x7 (aI @tab.f151x8 @tab.f151x9))) (aI (aI @tab.f226x0 (aI @tab.f226x1 @tab.f226x2)) (aI @tab.f226x3 (aI @tab.f230x0 @tab.f232x0)))) (aI (aI (aI @tab.f232x1 (aI @tab.f235x0 @tab.f235x1)) (aI @tab.f235x2 (aI @tab.f239x0 @tab.f239x1))) (aI (aI @tab.f244x0 (aI @tab.f244x1 @tab.f244x2)) (aI (aI @tab.f246x0 @tab.f246x1) (aI @tab.f246x2 @tab.f246x3))))))
def bodpb51 :=
  (aI (aI (aI (aI (aI bodpc11 (aI bodpc10 bodpc1)) (aI bodpc3 (aI bodpc4 bodpc5))) (aI (aI bodpc6 (aI @FC.c_length @H1.c_length)) (aI @I16.c_length (aI @IC.at_val @IC.c_length)))) (aI (aI (aI @al149 (aI @b151k11 @tab.f149x0)) (aI @tab.f149x1 (aI @tab.f151x0 @tab.f151x1))) (aI (aI @tab.f151x10 (aI @tab.f151x11 @tab.f151x12)) (aI @tab.f151x13 (aI @tab.f151x2 @tab.f151x3))))) (aI (aI (aI (aI @tab.f151x4 (aI @tab.f151x5 @tab.f151x6)) (aI @tab.f151x7 (aI @tab.f151x8 @tab.f151x9))) (aI (aI @tab.f226x0 (aI @tab.f226x1 @tab.f226x2)) (aI @tab.f226x3 (aI @tab.f230x0 @tab.f232x0)))) (aI (aI (aI @tab.f232x1 (aI @tab.f235x0 @tab.f235x1)) (aI @tab.f235x2 (aI @tab.f239x0 @tab.f239x1))) (aI (aI @tab.f244x0 (aI @tab.f244x1 @tab.f244x2)) (aI (aI @tab.f246x0 @tab.f246x1) (aI @tab.f246x2 @tab.f246x3))))))
theorem plain_k11 (who : I16) (pn : Int) (toA : Bool) (key vwho : I16) (vn : Int) (val : List UInt8) (h11 : val.length ≤ 140737488355328) : Pure Try.prog 123 [.ifc 244 (.agg (CP.c ⟨who, .v (.int .i64 pn), .v (.bool toA), key, .v (.int .i64 vn), vwho, bsl val⟩))] (.agg (FC.c { zF with kind := .v (.int .i64 11), who := who, pn := .v (.int .i64 pn), toA := .v (.bool toA), key := key, vn := .v (.int .i64 vn), vwho := vwho, val := bsl val })) := by
  refine SCall.mk (fn := Try.f123) (by kernel_rfl) rfl (Nat.le_of_ble_eq_true (by kernel_rfl)) ?_
  refine goC ?_
  simp -dsimp +decide (disch := first | omega | simp +decide only [bodpb34]) only [bodpb50, ↓brun_b, envOf, Nat.reduceAdd, Nat.reduceBEq, fun v => miss214 244 v (by decide), fun v => miss210 244 v (by decide), fun v => miss218 244 v (by decide), fun v => miss226 244 v (by decide), fun v => miss230 244 v (by decide), fun v => miss232 244 v (by decide), fun v => miss235 244 v (by decide), fun v => miss237 244 v (by decide), fun v => miss239 244 v (by decide), fun v => miss241 244 v (by decide)]
  refine Sem.draw' (by kernel_rfl) (.one 0 (.one 1 (.one 2 (.one 3 (.one 4 (.one 5 (.alt 6 (.one 7 (.alt 8 .done .non)) .non))))))) [0] (by kernel_rfl) (fun G ff hG hf => ?_)
  simp +decide only [bodpb4, Nat.reduceAdd] at hG ⊢
  simp -dsimp +decide (disch := first | omega | simp +decide only [bodpb34]) only [bodpb51, ↓brun_b, Nat.reduceAdd, Nat.reduceBEq, hG]
  refine OpSem.callq cal.f167 (item_calls key vwho vn val h11) rfl rfl rfl (by simp only [bflat_a, bodpb22]) (by simp only [bflat_a, bodpb22]) (dK rfl) ?_
  simp -dsimp +decide (disch := first | omega | simp +decide only [bodpb34]) only [bodpb51, ↓brun_b, Nat.reduceAdd, Nat.reduceBEq]
  refine hf _ (Sem.go (k := 1000) ?_)
  simp +decide only [back_mk, backL_in, backL_row, backL_nil, Nat.zero_add, Nat.reduceAdd]
  simp -dsimp +decide (disch := first | omega | simp +decide only [bodpb34]) only [bodpb37]
  refine SQ.answer (rs := [.cell 2 151]) rfl rfl ?_
  simp -dsimp +decide (disch := first | omega | simp +decide only [bodpb34]) only [bodpb38, ↓brun_b, Nat.reduceAdd, Nat.reduceBEq, rho]
def bodpb52 :=
  (aI (aI (aI (aI (aI bodpc11 (aI bodpc10 bodpc1)) (aI bodpc3 (aI bodpc4 bodpc5))) (aI (aI bodpc6 (aI @FC.c_length @H1.c_length)) (aI @I16.c_length (aI @IC.at_val @IC.c_length)))) (aI (aI (aI @al149 (aI @b151k12 @hit210)) (aI @tab.f149x0 (aI @tab.f149x1 @tab.f151x0))) (aI (aI @tab.f151x1 (aI @tab.f151x10 @tab.f151x11)) (aI (aI @tab.f151x12 @tab.f151x13) (aI @tab.f151x2 @tab.f151x3))))) (aI (aI (aI (aI @tab.f151x4 (aI @tab.f151x5 @tab.f151x6)) (aI @tab.f151x7 (aI @tab.f151x8 @tab.f151x9))) (aI (aI @tab.f226x0 (aI @tab.f226x1 @tab.f226x2)) (aI @tab.f226x3 (aI @tab.f230x0 @tab.f232x0)))) (aI (aI (aI @tab.f232x1 (aI @tab.f235x0 @tab.f235x1)) (aI @tab.f235x2 (aI @tab.f239x0 @tab.f239x1))) (aI (aI @tab.f244x0 (aI @tab.f244x1 @tab.f244x2)) (aI (aI @tab.f246x0 @tab.f246x1) (aI @tab.f246x2 @tab.f246x3))))))
def bodpb53 :=
  (aI (aI (aI (aI (aI bodpc11 (aI bodpc10 bodpc1)) (aI bodpc2 (aI bodpc3 bodpc4))) (aI (aI bodpc5 (aI bodpc6 @FC.c_length)) (aI (aI @H1.c_length @I16.c_length) (aI @al149 @bwk_a)))) (aI (aI (aI @eq_self.{1} (aI @forall_const.{1} @implies_true.{0})) (aI @implies_true.{1} (aI @tab.f149x0 @tab.f149x1))) (aI (aI @tab.f151x0 (aI @tab.f151x1 @tab.f151x10)) (aI (aI @tab.f151x11 @tab.f151x12) (aI @tab.f151x13 @tab.f151x2))))) (aI (aI (aI (aI @tab.f151x3 (aI @tab.f151x4 @tab.f151x5)) (aI @tab.f151x6 (aI @tab.f151x7 @tab.f151x8))) (aI (aI @tab.f151x9 (aI @tab.f226x0 @tab.f226x1)) (aI (aI @tab.f226x2 @tab.f226x3) (aI @tab.f230x0 @tab.f232x0)))) (aI (aI (aI @tab.f232x1 (aI @tab.f235x0 @tab.f235x1)) (aI (aI @tab.f235x2 @tab.f239x0) (aI @tab.f239x1 @tab.f244x0))) (aI (aI @tab.f244x1 (aI @tab.f244x2 @tab.f246x0)) (aI (aI @tab.f246x1 @tab.f246x2) (aI @tab.f246x3 @zF.eq_1))))))
theorem plain_k12 (who : I16) (pn : Int) (toA : Bool) (key vwho : I16) (vn : Int) : Pure Try.prog 123 [.ifc 246 (.agg (GT.c ⟨who, .v (.int .i64 pn), .v (.bool toA), key, .v (.int .i64 vn), vwho⟩))] (.agg (FC.c { zF with kind := .v (.int .i64 12), who := who, pn := .v (.int .i64 pn), toA := .v (.bool toA), key := key, vn := .v (.int .i64 vn), vwho := vwho })) := by
  refine SCall.mk (fn := Try.f123) (by kernel_rfl) rfl (Nat.le_of_ble_eq_true (by kernel_rfl)) ?_
  refine goC ?_
  simp -dsimp +decide (disch := first | omega | simp +decide only [bodpb34]) only [bodpb52, ↓brun_b, envOf, Nat.reduceAdd, Nat.reduceBEq, fun v => miss214 246 v (by decide), fun v => miss210 246 v (by decide), fun v => miss218 246 v (by decide), fun v => miss226 246 v (by decide), fun v => miss230 246 v (by decide), fun v => miss232 246 v (by decide), fun v => miss235 246 v (by decide), fun v => miss237 246 v (by decide), fun v => miss239 246 v (by decide), fun v => miss241 246 v (by decide), fun v => miss244 246 v (by decide)]
  refine SQ.answer (rs := [.cell 2 151]) rfl rfl ?_
  simp -dsimp +decide (disch := first | omega | simp +decide only [bodpb34]) only [bodpb53, ↓brun_b, Nat.reduceAdd, Nat.reduceBEq, rho]
end Go.Proofs
