/- Contracts of functions that the laws reach, on abstract values, and what they need: no conditions but those that each theorem states. -/
import Derived.Test.YtheodenjjaoncaaHelP
set_option linter.unusedVariables false
set_option linter.unusedSimpArgs false
set_option linter.defProp false
namespace Go.Proofs
open Go Go.SL
set_option maxRecDepth 100000
end Go.Proofs
namespace Go.Proofs
open Go Go.SL
set_option maxRecDepth 100000
end Go.Proofs
namespace Go.Proofs
open Go Go.SL
set_option maxRecDepth 100000
theorem frm_flat (kind pn n fi fn ti tn vn op ttl toA : Value) (who a b key vwho : I16) (tr : List Int) (is : List I16) (val tx : List UInt8) : SV.flatL (FC.c ⟨.v kind, who, .v pn, .v toA, a, b, .v n, .v fi, .v fn, .v ti, .v tn, .rsl 1 (lrows tr), .rsl 16 (idrs is), key, .v vn, vwho, bsl val, .v op, .v ttl, bsl tx⟩) = true := by
  simp [FC.flat_eq, flat_v, flat_rsl, lrows_flat, idrs_flat, bsl, flatR_brows]
def helqc0 :=
  (And.intro (And.intro @EC.c_length @FC.c_length) (And.intro @H1.c_length (And.intro @I16.c_length @brow_len)))
def helqb0 :=
  (And.intro (And.intro (And.intro (And.intro helqc0 (And.intro @EC.flat @EC.one)) (And.intro @FC.flat_eq (And.intro @FC.one_eq @H1.flat))) (And.intro (And.intro @H1.one (And.intro @I16.flat @I16.one)) (And.intro @IC.c_length (And.intro @IC.flat @IC.one)))) (And.intro (And.intro (And.intro @bdset_a (And.intro @brow_flat @frm_flat)) (And.intro @idrs_flat (And.intro @idrs_len @lrow_len))) (And.intro (And.intro @lrows_flat (And.intro @lrows_length @zD.eq_1)) (And.intro (And.intro @zE.eq_1 @zF.eq_1) (And.intro @zH.eq_1 @zK.eq_1)))))
def helqc1 :=
  (And.intro (And.intro (And.intro (And.intro (And.intro (And.intro (And.intro @EC.at_op @EC.at_pn) (And.intro @EC.ent @EC.part)) (And.intro (And.intro @EC.set_all @EC.set_op) (And.intro @FC.part (And.intro @FC.set_all @H1.part)))) (And.intro (And.intro (And.intro @H1.part_a @H1.part_from) (And.intro @H1.part_to @H1.set_all)) (And.intro (And.intro @I16.part @Int.cast_ofNat_Int) (And.intro @List.replicate_succ.{0} (And.intro @List.replicate_zero.{0} @SKren_row))))) (And.intro (And.intro (And.intro (And.intro @after_mk @al151) (And.intro @beq_self_eq_true.{0} @brow_cell)) (And.intro (And.intro @brun_a @build151z) (And.intro @build214 (And.intro @cellAt_succ @cellAt_zero)))) (And.intro (And.intro (And.intro @cond_false.{1} @cond_true.{1}) (And.intro @mergeL_done (And.intro @mergeL_own @mergeL_row))) (And.intro (And.intro @mk210 @mk214) (And.intro @mk218 (And.intro @renL_cons @renL_flat)))))) (And.intro (And.intro (And.intro (And.intro (And.intro @renL_nil @ren_tup) (And.intro @sop_assert @splice_0)) (And.intro (And.intro @splice_c @splice_s) (And.intro @tab.a135 (And.intro @tab.a144 @tab.a145)))) (And.intro (And.intro (And.intro @tab.a147 @tab.a149) (And.intro @tab.a151 @tab.a2)) (And.intro (And.intro @tab.a23 @tab.a3) (And.intro @tab.a35 (And.intro @tab.a4 @tab.a5))))) (And.intro (And.intro (And.intro (And.intro @tab.a79 @tab.f144x0) (And.intro @tab.f144x1 @tab.f149x0)) (And.intro (And.intro @tab.f149x1 @tab.f149x2) (And.intro @tab.f151x0 (And.intro @tab.f151x1 @tab.f151x10)))) (And.intro (And.intro (And.intro @tab.f151x11 @tab.f151x12) (And.intro @tab.f151x13 (And.intro @tab.f151x2 @tab.f151x3))) (And.intro (And.intro @tab.f151x4 @tab.f151x5) (And.intro @tab.f151x6 (And.intro @tab.f151x7 @tab.f151x8))))))) (And.intro (And.intro (And.intro (And.intro (And.intro (And.intro @tab.f151x9 @tab.f214x0) (And.intro @tab.f214x1 @tab.f214x2)) (And.intro (And.intro @tab.f226x0 @tab.f226x1) (And.intro @tab.f226x2 (And.intro @tab.f226x3 @tab.f230x0)))) (And.intro (And.intro (And.intro @tab.f232x0 @tab.f232x1) (And.intro @tab.f235x0 @tab.f235x1)) (And.intro (And.intro @tab.f235x2 @tab.f237x0) (And.intro @tab.f237x1 (And.intro @tab.f237x2 @tab.f237x3))))) (And.intro (And.intro (And.intro (And.intro @tab.f237x4 @tab.f237x5) (And.intro @tab.f239x0 @tab.f239x1)) (And.intro (And.intro @tab.f241x0 @tab.f241x1) (And.intro @tab.f241x2 (And.intro @tab.f241x3 @tab.f241x4)))) (And.intro (And.intro (And.intro @tab.f241x5 @tab.f241x6) (And.intro @tab.f244x0 (And.intro @tab.f244x1 @tab.f244x2))) (And.intro (And.intro @tab.f246x0 @tab.f246x1) (And.intro @tab.f246x2 (And.intro @tab.f246x3 @tab.s135)))))) (And.intro (And.intro (And.intro (And.intro (And.intro @tab.s144 @tab.s145) (And.intro @tab.s147 @tab.s149)) (And.intro (And.intro @tab.s151 @tab.s2) (And.intro @tab.s23 (And.intro @tab.s230 @tab.s232)))) (And.intro (And.intro (And.intro @tab.s3 @tab.s35) (And.intro @tab.s4 @tab.s5)) (And.intro (And.intro @tab.s79 @tab.u135) (And.intro @tab.u144 (And.intro @tab.u145 @tab.u147))))) (And.intro (And.intro (And.intro (And.intro @tab.u2 @tab.u210) (And.intro @tab.u214 @tab.u218)) (And.intro (And.intro @tab.u226 @tab.u23) (And.intro @tab.u230 (And.intro @tab.u232 @tab.u235)))) (And.intro (And.intro (And.intro @tab.u237 @tab.u239) (And.intro @tab.u241 (And.intro @tab.u244 @tab.u246))) (And.intro (And.intro @tab.u3 @tab.u35) (And.intro @tab.u4 (And.intro @tab.u5 @tab.u79))))))))
def helqb1 :=
  (And.intro (And.intro (And.intro (And.intro helqc1 helqc0) (And.intro @FC.at_is (And.intro @FC.at_kind @FC.at_n))) (And.intro (And.intro @FC.at_op @FC.at_pn) (And.intro @FC.at_toA (And.intro @FC.at_tr @FC.at_ttl)))) (And.intro (And.intro (And.intro @FC.at_tx @FC.at_val) (And.intro @FC.part_P (And.intro @FC.part_a @FC.part_b))) (And.intro (And.intro @FC.part_from @FC.part_it) (And.intro @FC.part_key (And.intro @FC.part_to @FC.part_ver)))))
def helqb2 :=
  (And.intro (And.intro helqc1 (And.intro helqc0 @bwk_a)) (And.intro (And.intro @eq_self.{1} @forall_const.{1}) (And.intro @implies_true.{0} @implies_true.{1})))
theorem of_hello (F : Frm) (hk : F.kind = 1) : Pure Try.prog 119 [.agg F.fc.c] (.tup [.ifc 214 (.agg (H1.c ⟨.v (.int .i64 F.fi), .v (.int .i64 F.fn), .v (.int .i64 F.ti), .v (.int .i64 F.tn), F.a⟩)), .v (.bool true)]) := by
  refine SCall.mk (fn := Try.f119) (by kernel_rfl) rfl (Nat.le_of_ble_eq_true (by kernel_rfl)) ?_
  refine Sem.go (k := 1000) ?_
  simp -dsimp (decide := true) (maxSteps := 1000000) (disch := first | omega | simp (decide := true) only [helqb0]) only [helqb1, ↓brun_b, envOf, reduceIte, Nat.reduceEqDiff, Nat.reduceAdd, Nat.reduceSub, Nat.reduceMul, Nat.reduceBEq, Nat.reduceLeDiff, Nat.reduceLT, Int.reduceToNat, rho, Frm.fc, hk]
  refine SQ.answer (rs := [.tmp 2, .tmp 3]) rfl rfl ?_
  simp -dsimp (decide := true) (maxSteps := 1000000) (disch := first | omega | simp (decide := true) only [helqb0]) only [helqb2, ↓brun_b, envOf, reduceIte, Nat.reduceEqDiff, Nat.reduceAdd, Nat.reduceSub, Nat.reduceMul, Nat.reduceBEq, Nat.reduceLeDiff, Nat.reduceLT, Int.reduceToNat, rho, frz1, ↓reduceIte]
end Go.Proofs
namespace Go.Proofs
open Go Go.SL
set_option maxRecDepth 100000
end Go.Proofs
namespace Go.SL
open Go
end Go.SL
namespace Go.Proofs
open Go Go.SL
set_option maxRecDepth 100000
theorem zF_flat : SV.flatL zF.c = true := by simp [FC.flat_eq, zF, flat_v]
end Go.Proofs
namespace Go.SL
open Go
def I64 (x : Int) : Prop := -9223372036854775808 ≤ x ∧ x < 9223372036854775808
structure Frm.wf (F : Frm) : Prop where
  kind : I64 F.kind
  pn : I64 F.pn
  n : I64 F.n
  fi : I64 F.fi
  fn : I64 F.fn
  ti : I64 F.ti
  tn : I64 F.tn
  tr : ∀ m ∈ F.tr, I64 m
  vn : I64 F.vn
  op : I64 F.op
  ttl : I64 F.ttl
  ltr : F.tr.length * 8 ≤ reachBytes
  lis : F.is.length * 16 ≤ reachBytes
  lval : F.val.length ≤ reachBytes
  ltx : F.tx.length ≤ reachBytes
end Go.SL
namespace Go.Proofs
open Go Go.SL
set_option maxRecDepth 100000
end Go.Proofs
