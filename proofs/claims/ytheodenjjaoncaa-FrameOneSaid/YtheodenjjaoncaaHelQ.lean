/- Contracts of functions that the laws reach, on abstract values, and what they need: no conditions but those that each theorem states. -/
import Derived.Test.YtheodenjjaoncaaHelP
set_option linter.unusedVariables false
set_option linter.unusedSimpArgs false
set_option linter.defProp false
namespace Go.Proofs
open Go Go.SL
set_option maxRecDepth 100000
end Go.Proofs
namespace Go.Proofs
open Go Go.SL
set_option maxRecDepth 100000
end Go.Proofs
namespace Go.Proofs
open Go Go.SL
set_option maxRecDepth 100000
theorem frm_flat (kind pn n fi fn ti tn vn op ttl toA : Value) (who a b key vwho : I16) (tr : List Int) (is : List I16) (val tx : List UInt8) : SV.flatL (FC.c ⟨.v kind, who, .v pn, .v toA, a, b, .v n, .v fi, .v fn, .v ti, .v tn, .rsl 1 (lrows tr), .rsl 16 (idrs is), key, .v vn, vwho, bsl val, .v op, .v ttl, bsl tx⟩) = true := by
  simp [FC.flat_eq, flat_v, flat_rsl, lrows_flat, idrs_flat, bsl, flatR_brows]
def helqb0 :=
  (And.intro (And.intro (And.intro (And.intro @FC.c_length @FC.flat_eq) (And.intro @FC.one_eq @H1.c_length)) (And.intro (And.intro @H1.flat @H1.one) (And.intro @I16.c_length (And.intro @I16.flat @I16.one)))) (And.intro (And.intro (And.intro @bdset_a @frm_flat) (And.intro @idrs_flat (And.intro @idrs_len @lrows_flat))) (And.intro (And.intro @zD.eq_1 @zE.eq_1) (And.intro @zF.eq_1 (And.intro @zH.eq_1 @zK.eq_1)))))
def helqc0 :=
  (And.intro (And.intro (And.intro (And.intro (And.intro (And.intro @EC.at_op @EC.ent) (And.intro @EC.set_op @FC.part)) (And.intro (And.intro @FC.set_all @H1.part) (And.intro @H1.part_a @H1.part_from))) (And.intro (And.intro (And.intro @H1.part_to @H1.set_all) (And.intro @I16.part @Int.cast_ofNat_Int)) (And.intro (And.intro @List.replicate_succ.{0} @List.replicate_zero.{0}) (And.intro @SKren_row (And.intro @after_mk @al151))))) (And.intro (And.intro (And.intro (And.intro @al214 @beq_self_eq_true.{0}) (And.intro @brun_a @build151z)) (And.intro (And.intro @build214 @cellAt_succ) (And.intro @cellAt_zero @cond_false.{1}))) (And.intro (And.intro (And.intro @cond_true.{1} @mergeL_done) (And.intro @mergeL_own @mergeL_row)) (And.intro (And.intro @mk214 @renL_cons) (And.intro @renL_flat (And.intro @renL_nil @ren_tup)))))) (And.intro (And.intro (And.intro (And.intro (And.intro @sop_assert @sp02) (And.intro @splice_0 @splice_c)) (And.intro (And.intro @splice_s @tab.a135) (And.intro @tab.a151 @tab.a23))) (And.intro (And.intro (And.intro @tab.a3 @tab.a35) (And.intro @tab.a4 @tab.f151x0)) (And.intro (And.intro @tab.f151x3 @tab.f151x6) (And.intro @tab.f151x7 (And.intro @tab.f214x0 @tab.f214x1))))) (And.intro (And.intro (And.intro (And.intro @tab.f214x2 @tab.s135) (And.intro @tab.s151 @tab.s214)) (And.intro (And.intro @tab.s23 @tab.s3) (And.intro @tab.s35 @tab.s4))) (And.intro (And.intro (And.intro @tab.u135 @tab.u144) (And.intro @tab.u145 @tab.u147)) (And.intro (And.intro @tab.u2 @tab.u3) (And.intro @tab.u35 (And.intro @tab.u4 @tab.u79)))))))
def helqb1 :=
  (And.intro (And.intro (And.intro helqc0 @FC.at_kind) (And.intro @FC.c_length @FC.part_a)) (And.intro (And.intro @FC.part_from @FC.part_to) (And.intro @H1.c_length @I16.c_length)))
def helqb2 :=
  (And.intro (And.intro (And.intro helqc0 @FC.c_length) (And.intro @H1.c_length @I16.c_length)) (And.intro (And.intro @bwk_a @eq_self.{1}) (And.intro @forall_const.{1} (And.intro @implies_true.{0} @implies_true.{1}))))
theorem of_hello (F : Frm) (hk : F.kind = 1) : Pure Try.prog 119 [.agg F.fc.c] (.tup [.ifc 214 (.agg (H1.c ⟨.v (.int .i64 F.fi), .v (.int .i64 F.fn), .v (.int .i64 F.ti), .v (.int .i64 F.tn), F.a⟩)), .v (.bool true)]) := by
  refine SCall.mk (fn := Try.f119) (by kernel_rfl) rfl (Nat.le_of_ble_eq_true (by kernel_rfl)) ?_
  refine Sem.go (k := 1000) ?_
  simp -dsimp (decide := true) (disch := first | omega | simp (decide := true) only [helqb0]) only [helqb1, ↓brun_b, envOf, Nat.reduceBEq, Frm.fc, hk]
  refine SQ.answer (rs := [.tmp 2, .tmp 3]) rfl rfl ?_
  simp -dsimp (decide := true) (disch := first | omega | simp (decide := true) only [helqb0]) only [helqb2, ↓brun_b, Nat.reduceBEq, rho]
end Go.Proofs
namespace Go.Proofs
open Go Go.SL
set_option maxRecDepth 100000
end Go.Proofs
namespace Go.SL
open Go
end Go.SL
namespace Go.Proofs
open Go Go.SL
set_option maxRecDepth 100000
end Go.Proofs
namespace Go.SL
open Go
def I64 (x : Int) : Prop := -9223372036854775808 ≤ x ∧ x < 9223372036854775808
structure Frm.wf (F : Frm) : Prop where
  kind : I64 F.kind
  pn : I64 F.pn
  n : I64 F.n
  fi : I64 F.fi
  fn : I64 F.fn
  ti : I64 F.ti
  tn : I64 F.tn
  tr : ∀ m ∈ F.tr, I64 m
  vn : I64 F.vn
  op : I64 F.op
  ttl : I64 F.ttl
  ltr : F.tr.length * 8 ≤ reachBytes
  lis : F.is.length * 16 ≤ reachBytes
  lval : F.val.length ≤ reachBytes
  ltx : F.tx.length ≤ reachBytes
end Go.SL
namespace Go.Proofs
open Go Go.SL
set_option maxRecDepth 100000
theorem frm_one (F : Frm) : F.fc.c.all SV.one = true := by simp [FC.one_eq, Frm.fc, one_v, oneCell_int, oneCell_bool, one_rsl]
end Go.Proofs
