/- Contracts of functions that the laws reach, on abstract values, and what they need: no conditions but those that each theorem states. -/
import Derived.Test.YtheodenjjaoncaaHelP
set_option linter.unusedVariables false
set_option linter.unusedSimpArgs false
set_option linter.defProp false
namespace Go.Proofs
open Go Go.SL
set_option maxRecDepth 100000
end Go.Proofs
namespace Go.Proofs
open Go Go.SL
set_option maxRecDepth 100000
end Go.Proofs
namespace Go.Proofs
open Go Go.SL
set_option maxRecDepth 100000
theorem frm_flat (kind pn n fi fn ti tn vn op ttl toA : Value) (who a b key vwho : I16) (tr : List Int) (is : List I16) (val tx : List UInt8) : SV.flatL (FC.c ⟨.v kind, who, .v pn, .v toA, a, b, .v n, .v fi, .v fn, .v ti, .v tn, .rsl 1 (lrows tr), .rsl 16 (idrs is), key, .v vn, vwho, bsl val, .v op, .v ttl, bsl tx⟩) = true := by
  simp [FC.flat_eq, flat_v, flat_rsl, lrows_flat, idrs_flat, bsl, flatR_brows]
def helqb0 :=
  (aI (aI (aI (aI @FC.c_length @FC.flat_eq) (aI @FC.one_eq @H1.c_length)) (aI (aI @H1.flat @H1.one) (aI @I16.c_length (aI @I16.flat @I16.one)))) (aI (aI (aI @bdset_a @frm_flat) (aI @idrs_flat (aI @idrs_len @lrows_flat))) (aI (aI @zD.eq_1 @zE.eq_1) (aI @zF.eq_1 (aI @zH.eq_1 @zK.eq_1)))))
def helqc0 :=
  (aI (aI (aI (aI (aI (aI @EC.at_op @EC.ent) (aI @EC.renc @EC.set_op)) (aI (aI @FC.part @FC.set_all) (aI @H1.part @H1.part_a))) (aI (aI (aI @H1.part_from @H1.part_to) (aI @H1.set_all @I16.part)) (aI (aI @Int.cast_ofNat_Int @List.replicate_succ.{0}) (aI @List.replicate_zero.{0} (aI @SKren_row @after_mk))))) (aI (aI (aI (aI @al151 @al214) (aI @beq_self_eq_true.{0} @brun_a)) (aI (aI @build151z @build214) (aI @cellAt_succ (aI @cellAt_zero @cond_false.{1})))) (aI (aI (aI @cond_true.{1} @mergeL_done) (aI @mergeL_own @mergeL_row)) (aI (aI @mk214 @renL_cons) (aI @renL_flat (aI @renL_nil @ren_tup)))))) (aI (aI (aI (aI (aI @sop_assert @sp02) (aI @splice_0 @splice_c)) (aI (aI @splice_s @tab.a135) (aI @tab.a151 (aI @tab.a23 @tab.a3)))) (aI (aI (aI @tab.a35 @tab.a4) (aI @tab.f151x0 @tab.f151x3)) (aI (aI @tab.f151x6 @tab.f151x7) (aI @tab.f214x0 (aI @tab.f214x1 @tab.f214x2))))) (aI (aI (aI (aI @tab.s135 @tab.s151) (aI @tab.s214 @tab.s23)) (aI (aI @tab.s3 @tab.s35) (aI @tab.s4 (aI @tab.u135 @tab.u144)))) (aI (aI (aI @tab.u145 @tab.u147) (aI @tab.u149 @tab.u151)) (aI (aI @tab.u2 @tab.u3) (aI @tab.u35 (aI @tab.u4 @tab.u79)))))))
def helqb1 :=
  (aI (aI (aI helqc0 @FC.at_kind) (aI @FC.c_length @FC.part_a)) (aI (aI @FC.part_from @FC.part_to) (aI @H1.c_length @I16.c_length)))
def helqb2 :=
  (aI (aI (aI helqc0 @FC.c_length) (aI @H1.c_length @I16.c_length)) (aI (aI @bwk_a @eq_self.{1}) (aI @forall_const.{1} (aI @implies_true.{0} @implies_true.{1}))))
theorem of_hello (F : Frm) (hk : F.kind = 1) : Pure Try.prog 119 [.agg F.fc.c] (.tup [.ifc 214 (.agg (H1.c ⟨.v (.int .i64 F.fi), .v (.int .i64 F.fn), .v (.int .i64 F.ti), .v (.int .i64 F.tn), F.a⟩)), .v (.bool true)]) := by
  refine SCall.mk (fn := Try.f119) (by kernel_rfl) rfl (Nat.le_of_ble_eq_true (by kernel_rfl)) ?_
  refine goC ?_
  simp -dsimp +decide (disch := first | omega | simp +decide only [helqb0]) only [helqb1, ↓brun_b, envOf, Nat.reduceBEq, Frm.fc, hk]
  refine SQ.answer (rs := [.tmp 2, .tmp 3]) rfl rfl ?_
  simp -dsimp +decide (disch := first | omega | simp +decide only [helqb0]) only [helqb2, ↓brun_b, Nat.reduceBEq, rho]
end Go.Proofs
namespace Go.Proofs
open Go Go.SL
set_option maxRecDepth 100000
def hF (mi mn pi pn : Int) (id : I16) : Frm := ⟨1, I16.zero, 0, false, id, I16.zero, 0, mi, mn, pi, pn, [], [], I16.zero, 0, I16.zero, [], 0, 0, []⟩
end Go.Proofs
namespace Go.SL
open Go
end Go.SL
namespace Go.Proofs
open Go Go.SL
set_option maxRecDepth 100000
end Go.Proofs
namespace Go.SL
open Go
def I64 (x : Int) : Prop := -9223372036854775808 ≤ x ∧ x < 9223372036854775808
structure Frm.wf (F : Frm) : Prop where
  kind : I64 F.kind
  pn : I64 F.pn
  n : I64 F.n
  fi : I64 F.fi
  fn : I64 F.fn
  ti : I64 F.ti
  tn : I64 F.tn
  tr : ∀ m ∈ F.tr, I64 m
  vn : I64 F.vn
  op : I64 F.op
  ttl : I64 F.ttl
  ltr : F.tr.length * 8 ≤ reachBytes
  lis : F.is.length * 16 ≤ reachBytes
  lval : F.val.length ≤ reachBytes
  ltx : F.tx.length ≤ reachBytes
theorem _root_.Go.Proofs.wfA {F : Frm} (hw : F.wf) : F.val.length ≤ 140737488355328 := by have := hw.lval; unfold reachBytes at this; omega
theorem _root_.Go.Proofs.wfB {F : Frm} (hw : F.wf) : F.tx.length ≤ 140737488355328 := by have := hw.ltx; unfold reachBytes at this; omega
theorem _root_.Go.Proofs.wfC {F : Frm} (hw : F.wf) : F.tr.length * 8 ≤ 140737488355328 := by have := hw.ltr; unfold reachBytes at this; omega
theorem _root_.Go.Proofs.wfD {F : Frm} (hw : F.wf) : F.is.length * 16 ≤ 140737488355328 := by have := hw.lis; unfold reachBytes at this; omega
theorem _root_.Go.Proofs.wfE {F : Frm} (hw : F.wf) : F.tr.length < 4611686018427387904 := by have := hw.ltr; unfold reachBytes at this; omega
theorem _root_.Go.Proofs.wfG {F : Frm} (hw : F.wf) : F.is.length < 4611686018427387904 := by have := hw.lis; unfold reachBytes at this; omega
end Go.SL
namespace Go.Proofs
open Go Go.SL
set_option maxRecDepth 100000
theorem cls135 {n : Nat} {l : List SV} (h : ClsC Try.prog (n + 2) 135 l) : ∃ a b : Int, l = [.v (.int .i64 a), .v (.int .i64 b)] ∧ I64 a ∧ I64 b := by
  unfold ClsC at h
  rw [tab.u135] at h
  obtain ⟨parts, rfl, hl, hp⟩ := h
  match parts, hl with
  | [p, q], _ =>
    obtain ⟨a, rfl, h1⟩ := cls_int64 tab.u2 (hp 0 _ p rfl rfl)
    obtain ⟨b, rfl, h2⟩ := cls_int64 tab.u2 (hp 1 _ q rfl rfl)
    exact ⟨a, b, rfl, h1, h2⟩
theorem cls144 {n : Nat} {l : List SV} (h : ClsC Try.prog (n + 3) 144 l) : ∃ (w : I16) (b : Int), l = w.c ++ [.v (.int .i64 b)] ∧ I64 b := by
  unfold ClsC at h
  rw [tab.u144] at h
  obtain ⟨parts, rfl, hl, hp⟩ := h
  match parts, hl with
  | [p, q], _ =>
    obtain ⟨a, rfl⟩ := cls_i16 (hp 0 _ p rfl rfl)
    obtain ⟨b, rfl, h2⟩ := cls_int64 tab.u2 (hp 1 _ q rfl rfl)
    exact ⟨a, b, by simp, h2⟩
theorem cls147 {n : Nat} {l : List SV} (h : ClsC Try.prog (n + 3) 147 l) : ∃ (b : Int) (w : I16), l = .v (.int .i64 b) :: w.c ∧ I64 b := by
  unfold ClsC at h
  rw [tab.u147] at h
  obtain ⟨parts, rfl, hl, hp⟩ := h
  match parts, hl with
  | [p, q], _ =>
    obtain ⟨b, rfl, h2⟩ := cls_int64 tab.u2 (hp 0 _ p rfl rfl)
    obtain ⟨a, rfl⟩ := cls_i16 (hp 1 _ q rfl rfl)
    exact ⟨b, a, by simp, h2⟩
theorem cls149 {n : Nat} {l : List SV} (h : ClsC Try.prog (n + 4) 149 l) : ∃ (k : I16) (b : Int) (w : I16) (v : List UInt8), l = k.c ++ (.v (.int .i64 b) :: (w.c ++ [bsl v])) ∧ I64 b ∧ v.length ≤ reachBytes := by
  unfold ClsC at h
  rw [tab.u149] at h
  obtain ⟨parts, rfl, hl, hp⟩ := h
  match parts, hl with
  | [p, q, r], _ =>
    obtain ⟨k, rfl⟩ := cls_i16 (hp 0 _ p rfl rfl)
    obtain ⟨b, w, rfl, h2⟩ := cls147 (hp 1 _ q rfl rfl)
    obtain ⟨v, rfl, h3⟩ := cls_bytes (hp 2 _ r rfl rfl)
    exact ⟨k, b, w, v, by simp, h2, h3⟩
theorem cls_ids16 {n : Nat} {l : List SV} (h : ClsC Try.prog (n + 3) 79 l) : ∃ X : List I16, l = [.rsl 16 (idrs X)] ∧ X.length * 16 ≤ reachBytes := by
  unfold ClsC at h
  rw [tab.u79] at h
  obtain ⟨rows, rfl, hb, hp⟩ := h
  have hc : Try.prog.cellsOf 23 = 16 := by kernel_rfl
  have hby : Try.prog.bytesOf 23 = 16 := by kernel_rfl
  rw [hby] at hb
  rw [hc]
  have : ∃ X : List I16, rows = idrs X := by
    clear hb
    induction rows with
    | nil => exact ⟨[], rfl⟩
    | cons r rows ih =>
      obtain ⟨X, h1⟩ := ih fun r hr => hp r (by simp [hr])
      obtain ⟨a, h2⟩ := cls_i16 (hp r (by simp))
      exact ⟨a :: X, by rw [h1, h2]; rfl⟩
  obtain ⟨X, rfl⟩ := this
  exact ⟨X, rfl, by rwa [idrs_len] at hb⟩
theorem cls_bool {n : Nat} {l : List SV} (h : ClsC Try.prog (n + 1) 4 l) : ∃ b : Bool, l = [.v (.bool b)] := by
  unfold ClsC at h
  rw [tab.u4] at h
  exact h
theorem cls_frm {n : Nat} {l : List SV} (h : ClsC Try.prog (n + 5) 151 l) : ∃ F : Frm, l = F.fc.c ∧ F.wf := by
  unfold ClsC at h
  rw [tab.u151] at h
  obtain ⟨parts, rfl, hl, hp⟩ := h
  match parts, hl with
  | [p0, p1, p2, p3, p4, p5, p6, p7, p8, p9, p10, p11, p12, p13], _ =>
    obtain ⟨kind, rfl, k0⟩ := cls_int64 tab.u3 (hp 0 _ p0 rfl rfl)
    obtain ⟨who, pn, rfl, k1⟩ := cls144 (hp 1 _ p1 rfl rfl)
    obtain ⟨toA, rfl⟩ := cls_bool (hp 2 _ p2 rfl rfl)
    obtain ⟨a, rfl⟩ := cls_i16 (hp 3 _ p3 rfl rfl)
    obtain ⟨b, rfl⟩ := cls_i16 (hp 4 _ p4 rfl rfl)
    obtain ⟨m, rfl, k5⟩ := cls_int64 tab.u2 (hp 5 _ p5 rfl rfl)
    obtain ⟨fi, fn, rfl, k6, k6'⟩ := cls135 (hp 6 _ p6 rfl rfl)
    obtain ⟨ti, tn, rfl, k7, k7'⟩ := cls135 (hp 7 _ p7 rfl rfl)
    obtain ⟨tr, rfl, k8, k8'⟩ := cls_ints (n := n + 2) tab.u145 tab.u3 (by kernel_rfl) (by kernel_rfl) (hp 8 _ p8 rfl rfl)
    obtain ⟨ids, rfl, k9⟩ := cls_ids16 (hp 9 _ p9 rfl rfl)
    obtain ⟨key, vn, vwho, val, rfl, k10, k10'⟩ := cls149 (hp 10 _ p10 rfl rfl)
    obtain ⟨op, rfl, k11⟩ := cls_int64 tab.u3 (hp 11 _ p11 rfl rfl)
    obtain ⟨ttl, rfl, k12⟩ := cls_int64 tab.u3 (hp 12 _ p12 rfl rfl)
    obtain ⟨tx, rfl, k13⟩ := cls_bytes (hp 13 _ p13 rfl rfl)
    exact ⟨⟨kind, who, pn, toA, a, b, m, fi, fn, ti, tn, tr, ids, key, vn, vwho, val, op, ttl, tx⟩, by simp [Frm.fc, FC.c], ⟨k0, k1, k5, k6, k6', k7, k7', k8, k10, k11, k12, k8', k9, k10', k13⟩⟩
theorem frm_one (F : Frm) : F.fc.c.all SV.one = true := by simp [FC.one_eq, Frm.fc, one_v, oneCell_int, oneCell_bool, one_rsl]
end Go.Proofs
