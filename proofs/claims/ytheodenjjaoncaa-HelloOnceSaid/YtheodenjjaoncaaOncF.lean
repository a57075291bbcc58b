/- Contracts of functions that the laws reach, on abstract values, and what they need: no conditions but those that each theorem states. -/
import Derived.Test.YtheodenjjaoncaaOncP
set_option linter.unusedVariables false
set_option linter.unusedSimpArgs false
set_option linter.defProp false
namespace Go.Proofs
open Go Go.SL
set_option maxRecDepth 100000
theorem bs124_0 (N : Nat) : sBuildSlice Try.prog N 124 0 [] = some ⟨.slc N 0 0, ⟨none, some (.row ⟨95, 0, true, 151, fun e => (([] : List SV).drop (e * 95)).take 95⟩)⟩, True⟩ := by kernel_rfl
theorem el137 : ElTy Try.prog 137 5 48 := ⟨tab.s137, tab.b137, ⟨_, tab.z137, rfl⟩, by decide, by decide⟩
theorem b137s (a b c d : Int) (s : ByteArray) : sBuild Try.prog 137 [(0, .agg [.v (.int .i64 a), .v (.int .i64 b)]), (1, .agg [.v (.int .i64 c), .v (.int .i64 d)]), (2, .v (.string s))] = some ⟨.agg [.v (.int .i64 a), .v (.int .i64 b), .v (.int .i64 c), .v (.int .i64 d), .v (.string s)], {}, True⟩ := by
  rw [sBuild_eq, tab.z137, tab.l137]; rfl
theorem bs127 (N : Nat) (a b c d : Int) (s : ByteArray) : sBuildSlice Try.prog N 127 1 [(0, .agg [.v (.int .i64 a), .v (.int .i64 b), .v (.int .i64 c), .v (.int .i64 d), .v (.string s)])] = some ⟨.slc N 0 1, ⟨none, some (.row ⟨5, 1, true, 137, fun e => (([.v (.int .i64 a), .v (.int .i64 b), .v (.int .i64 c), .v (.int .i64 d), .v (.string s)] : List SV).drop (e * 5)).take 5⟩)⟩, True⟩ :=
  buildSlice_one tab.u127 tab.s137 tab.z137 (by decide) rfl (by decide) [.v (.int .i64 a), .v (.int .i64 b), .v (.int .i64 c), .v (.int .i64 d), .v (.string s)] _ rfl rfl rfl
def addG (g : List Snt) (m p : Nat) : Option Tx → List Snt
  | none => g
  | some t => g ++ [⟨m, p, t⟩]
def restOf (w : List Ms) (i : Nat) : List Ms := w.take i ++ w.drop (i + 1)
theorem restOf_len (w : List Ms) (i : Nat) (h : i < w.length) : (restOf w i).length = i + (w.length - (i + 1)) := by
  simp [restOf]; omega
theorem restOf_ent {fz : Nat → Option SB} {ρ : Nat → Nat} (w : List Ms) (i : Nat) (h : i < w.length) (x : List SV) (e : Nat) : EntL fz ρ (wrow (restOf w i) e) (if e < i then wrow w e else wrow w (i + 1 + (e - i))) := by
  have : wrow (restOf w i) e = if e < i then wrow w e else wrow w (i + 1 + (e - i)) := by
    unfold restOf wrow
    by_cases he : e < i
    · rw [if_pos he]
      simp [List.getD_eq_getElem?_getD, List.getElem?_append, List.getElem?_take, he]
      rw [if_pos (by omega)]
    · rw [if_neg he]
      simp [List.getD_eq_getElem?_getD, List.getElem?_append, List.getElem?_take, List.getElem?_drop, he]
      rw [if_neg (by omega), show i + 1 + (e - min i w.length) = i + 1 + (e - i) by rw [Nat.min_eq_left (by omega)]]
  rw [← this]
  exact EntL.self (wrow_flat _ _)
theorem app_srow {fz : Nat → Option SB} {ρ : Nat → Nat} (g : List Snt) (x : Snt) (e : Nat) (he : e < g.length + 1) :
    EntL fz ρ (srow (g ++ [x]) e) (if e < g.length then srow g e else (([.v (.int .i64 (nI x.a)), .v (.int .i64 (x.a : Int)), .v (.int .i64 (nI x.b)), .v (.int .i64 (x.b : Int)), .v (.string ⟨x.t.toArray⟩)] : List SV).drop ((e - g.length) * 5)).take 5) := by
  by_cases h : e < g.length
  · have e1 : srow (g ++ [x]) e = srow g e := by simp [srow, List.getD_eq_getElem?_getD, List.getElem?_append_left h]
    rw [if_pos h, e1]; exact EntL.self (srow_flat _ _)
  · obtain rfl : e = g.length := by omega
    have e1 : srow (g ++ [x]) g.length = [.v (.int .i64 (nI x.a)), .v (.int .i64 (x.a : Int)), .v (.int .i64 (nI x.b)), .v (.int .i64 (x.b : Int)), .v (.string ⟨x.t.toArray⟩)] := by simp [srow, List.getD_eq_getElem?_getD]
    rw [if_neg h, Nat.sub_self, Nat.zero_mul, List.drop_zero, List.take_of_length_le (Nat.le_refl 5), e1]
    exact EntL.self rfl
def oncfc0 :=
  (And.intro (And.intro (And.intro @EC.c_length @FC.c_length) (And.intro @H1.c_length @I16.c_length)) (And.intro (And.intro @fh_flat @fk_flat) (And.intro @srow_len @trow_len)))
def oncfb0 :=
  (And.intro (And.intro (And.intro (And.intro (And.intro oncfc0 (And.intro @AD.c_length @AD.flat)) (And.intro (And.intro @AD.one @AK.c_length) (And.intro @AK.flat @AK.one))) (And.intro (And.intro (And.intro @CP.c_length @CP.flat) (And.intro @CP.one @DR.c_length)) (And.intro (And.intro @DR.flat @DR.one) (And.intro @EC.flat @EC.one)))) (And.intro (And.intro (And.intro @FC.flat_eq (And.intro @FC.one_eq @Frm.flat)) (And.intro (And.intro @GT.c_length @GT.flat) (And.intro @GT.one @H1.flat))) (And.intro (And.intro (And.intro @H1.one @I16.flat) (And.intro @I16.one @IC.c_length)) (And.intro (And.intro @IC.flat @IC.one) (And.intro @PE.c_length @PE.flat))))) (And.intro (And.intro (And.intro (And.intro @PE.one (And.intro @PK.c_length @PK.flat)) (And.intro (And.intro @PK.one @PT.c_length) (And.intro @PT.flat @PT.one))) (And.intro (And.intro (And.intro @RE.c_length @RE.flat) (And.intro @RE.one @SU.c_length)) (And.intro (And.intro @SU.flat @SU.one) (And.intro @bdset_a @brow_flat)))) (And.intro (And.intro (And.intro (And.intro @frm_flat @frm_one) (And.intro @frows_flat @idrs_flat)) (And.intro (And.intro @lrows_flat @srow_flat) (And.intro @trow_flat @trows_flat))) (And.intro (And.intro (And.intro @trows_length @wrow_flat) (And.intro @zD.eq_1 @zE.eq_1)) (And.intro (And.intro @zF.eq_1 @zH.eq_1) (And.intro @zK.eq_1 @zR.eq_1))))))
def oncfc1 :=
  (And.intro (And.intro (And.intro (And.intro (And.intro (And.intro @EC.at_op @EC.at_up) (And.intro @EC.at_w @EC.ent)) (And.intro (And.intro @EC.part @EC.part_id) (And.intro @EC.part_mine @EC.part_peer))) (And.intro (And.intro (And.intro @EC.part_pid @EC.renc) (And.intro @EC.set_all @EC.set_mine)) (And.intro (And.intro @EC.set_op @EC.set_peer) (And.intro @EC.set_pid @EC.set_up)))) (And.intro (And.intro (And.intro (And.intro @EC.set_w @FC.part) (And.intro @FC.set_all @H1.part)) (And.intro (And.intro @H1.part_a @H1.part_from) (And.intro @H1.part_to @H1.set_all))) (And.intro (And.intro (And.intro @I16.part @Int.cast_ofNat_Int) (And.intro @List.replicate_succ.{0} @List.replicate_zero.{0})) (And.intro (And.intro @SKren_row @after_mk) (And.intro @al135 (And.intro @al151 @al162)))))) (And.intro (And.intro (And.intro (And.intro (And.intro @al210 @al214) (And.intro @al218 @al23)) (And.intro (And.intro @build135z @build151a) (And.intro @build151h @build151z))) (And.intro (And.intro (And.intro @build162z @build214) (And.intro @build23z @cellAt_succ)) (And.intro (And.intro @cellAt_zero @hw10) (And.intro @hw11 @mergeL_done)))) (And.intro (And.intro (And.intro (And.intro @mergeL_own @mergeL_row) (And.intro @mk210 @mk214)) (And.intro (And.intro @mk218 @renL_cons) (And.intro @renL_flat @renL_nil))) (And.intro (And.intro (And.intro @ren_tup @sop_assert) (And.intro @sp02 @sp05)) (And.intro (And.intro @sp22 @splice_0) (And.intro @splice_c (And.intro @splice_s @trow_cell)))))))
def oncfc2 :=
  (And.intro (And.intro (And.intro (And.intro (And.intro (And.intro @beq_self_eq_true.{0} @brun_a) (And.intro @cond_false.{1} @cond_true.{1})) (And.intro (And.intro @tab.a121 @tab.a124) (And.intro @tab.a127 @tab.a135))) (And.intro (And.intro (And.intro @tab.a137 @tab.a151) (And.intro @tab.a162 @tab.a2)) (And.intro (And.intro @tab.a23 @tab.a3) (And.intro @tab.a35 (And.intro @tab.a4 @tab.a5))))) (And.intro (And.intro (And.intro (And.intro @tab.a9 @tab.f130x0) (And.intro @tab.f130x1 @tab.f130x2)) (And.intro (And.intro @tab.f130x3 @tab.f130x4) (And.intro @tab.f135x0 @tab.f135x1))) (And.intro (And.intro (And.intro @tab.f137x0 @tab.f137x1) (And.intro @tab.f137x2 @tab.f151x0)) (And.intro (And.intro @tab.f151x13 @tab.f151x3) (And.intro @tab.f151x5 (And.intro @tab.f151x6 @tab.f151x7)))))) (And.intro (And.intro (And.intro (And.intro (And.intro @tab.f162x0 @tab.f162x1) (And.intro @tab.f162x2 @tab.f162x3)) (And.intro (And.intro @tab.f162x4 @tab.s121) (And.intro @tab.s124 @tab.s127))) (And.intro (And.intro (And.intro @tab.s135 @tab.s137) (And.intro @tab.s151 @tab.s162)) (And.intro (And.intro @tab.s2 @tab.s23) (And.intro @tab.s3 (And.intro @tab.s35 @tab.s4))))) (And.intro (And.intro (And.intro (And.intro @tab.s5 @tab.s9) (And.intro @tab.u121 @tab.u123)) (And.intro (And.intro @tab.u124 @tab.u125) (And.intro @tab.u126 @tab.u127))) (And.intro (And.intro (And.intro @tab.u128 @tab.u135) (And.intro @tab.u2 @tab.u23)) (And.intro (And.intro @tab.u3 @tab.u35) (And.intro @tab.u4 (And.intro @tab.u5 @tab.u9)))))))
def oncfb1 :=
  (And.intro oncfc1 (And.intro oncfc0 oncfc2))
def oncfb2 :=
  (And.intro (And.intro (And.intro @List.length_cons.{0} @List.length_nil.{0}) (And.intro @Nat.zero_add @roL_in)) (And.intro (And.intro @roL_nil @roL_none) (And.intro @roL_row @ro_mk)))
def oncfb3 :=
  (And.intro (And.intro oncfc1 oncfc0) (And.intro oncfc2 @bs124_0))
def oncfb4 :=
  (And.intro (And.intro (And.intro oncfc1 oncfc0) (And.intro oncfc2 @bwk_a)) (And.intro (And.intro @eq_self.{1} @forall_const.{1}) (And.intro @implies_true.{0} @implies_true.{1})))
def oncfb6 :=
  (And.intro (And.intro oncfc1 oncfc0) (And.intro oncfc2 @b135))
def oncfb7 :=
  (And.intro (And.intro oncfc1 oncfc0) (And.intro oncfc2 (And.intro @b137s @bs127)))
set_option maxHeartbeats 4000000 in
theorem come0 (i0 i1 : I16) (T : Tk) (i : Nat) (f : Ms) (hi : i < (T.w false).length) (hf : (T.w false).getD i (.ak 0 0 0) = f) (hwl : (T.w false).length ≤ 200)
    (h0 : (T.e false).base + (T.e false).ts.length < 4611686018427387904) (h1 : (T.e false).ts.length * 24 ≤ 140737488355328) (hg : ((T.e false).got : Int) < 4611686018427387904)
    (hda : ∀ a b n t, f = .da a b n t → I64 (n : Int) ∧ t.length ≤ 140737488355328) (hak : ∀ a b n, f = .ak a b n → I64 (n : Int)) (hc : T.c false < 1000000) (hgl : (T.g false).length < 1000000)
    (e' : En) (ot : Option Tx) (out : List Ms) (hx : hear i0 (T.e false) f (T.c false + 1) = (e', ot, out)) (hout : out.length < 1000000) (c' : Nat) (hc' : c' = if e'.m = (T.e false).m then T.c false else T.c false + 1)
    (g' : List Snt) (hg' : g' = addG (T.g false) e'.m e'.p ot) :
    SCall Try.prog 135 [.ptr 0 0 0, .v (.int .i64 0), .v (.int .i64 (i : Int))] [some (.row ⟨10, 1, true, 130, fun _ => [.ptr 1 0 0, .ptr 4 0 0, .slc 7 0 (T.w false).length, .slc 8 0 (T.w true).length, .v (.int .i64 ((T.c false) : Int)), .v (.int .i64 ((T.c true) : Int)), .slc 9 0 (T.s false).length, .slc 10 0 (T.s true).length, .slc 11 0 (T.g false).length, .slc 12 0 (T.g true).length]⟩),
      some (.row ⟨39, 1, true, 204, fun _ => EC.c ⟨i0, .v (.bool (T.e false).up), .v (.bool (T.e false).op), .v (.int .i64 (nI (T.e false).m)), .v (.int .i64 ((T.e false).m : Int)), .v (.int .i64 (nI (T.e false).p)), .v (.int .i64 ((T.e false).p : Int)), (T.e false).pid, .ptr 2 0 0⟩⟩),
      some (.row ⟨3, 1, true, 197, fun _ => [.v (.int .i64 ((T.e false).base : Int)), .slc 3 0 (T.e false).ts.length, .v (.int .i64 ((T.e false).got : Int))]⟩),
      some (.row ⟨1, (T.e false).ts.length, true, 35, trow (T.e false).ts⟩),
      some (.row ⟨39, 1, false, 204, fun _ => EC.c ⟨i1, .v (.bool (T.e true).up), .v (.bool (T.e true).op), .v (.int .i64 (nI (T.e true).m)), .v (.int .i64 ((T.e true).m : Int)), .v (.int .i64 (nI (T.e true).p)), .v (.int .i64 ((T.e true).p : Int)), (T.e true).pid, .ptr 5 0 0⟩⟩),
      some (.row ⟨3, 1, false, 197, fun _ => [.v (.int .i64 ((T.e true).base : Int)), .slc 6 0 (T.e true).ts.length, .v (.int .i64 ((T.e true).got : Int))]⟩),
      some (.row ⟨1, (T.e true).ts.length, false, 35, trow (T.e true).ts⟩),
      some (.row ⟨95, (T.w false).length, true, 151, wrow (T.w false)⟩),
      some (.row ⟨95, (T.w true).length, true, 151, wrow (T.w true)⟩),
      some (.row ⟨5, (T.s false).length, false, 137, srow (T.s false)⟩),
      some (.row ⟨5, (T.s true).length, false, 137, srow (T.s true)⟩),
      some (.row ⟨5, (T.g false).length, true, 137, srow (T.g false)⟩),
      some (.row ⟨5, (T.g true).length, false, 137, srow (T.g true)⟩)]
      fun r L => r = .ret (.tup []) ∧ L = [some (.row ⟨10, 1, true, 130, fun _ => [.ptr 1 0 0, .ptr 4 0 0, .slc 15 0 (restOf (T.w false) i).length, .slc 16 0 (sayL (T.w true) out).length, .v (.int .i64 (c' : Int)), .v (.int .i64 ((T.c true) : Int)), .slc 9 0 (T.s false).length, .slc 10 0 (T.s true).length, .slc 17 0 g'.length, .slc 12 0 (T.g true).length]⟩),
      some (.row ⟨39, 1, true, 204, fun _ => EC.c ⟨i0, .v (.bool e'.up), .v (.bool e'.op), .v (.int .i64 (nI e'.m)), .v (.int .i64 (e'.m : Int)), .v (.int .i64 (nI e'.p)), .v (.int .i64 (e'.p : Int)), e'.pid, .ptr 13 0 0⟩⟩),
      none,
      none,
      none,
      none,
      none,
      none,
      none,
      none,
      none,
      none,
      none,
      some (.row ⟨3, 1, true, 197, fun _ => [.v (.int .i64 (e'.base : Int)), .slc 14 0 e'.ts.length, .v (.int .i64 (e'.got : Int))]⟩),
      some (.row ⟨1, e'.ts.length, true, 35, trow e'.ts⟩),
      some (.row ⟨95, (restOf (T.w false) i).length, true, 151, wrow (restOf (T.w false) i)⟩),
      some (.row ⟨95, (sayL (T.w true) out).length, true, 151, wrow (sayL (T.w true) out)⟩),
      some (.row ⟨5, g'.length, true, 137, srow g'⟩)] := by
  have hrl := restOf_len (T.w false) i hi
  have hre := fun fz ρ => @restOf_ent fz ρ (T.w false) i hi []
  have hs := say0 i0 i1 ⟨upd T.e false e', upd T.w false (restOf (T.w false) i), upd T.c false c', T.s, upd T.g false g'⟩ out (by omega)
  simp only [upd_ff, upd_tt, upd_ft, upd_tf] at hs
  generalize he : T.e false = e at *
  obtain ⟨up, op, m, p, pid, base, got, ts⟩ := e
  obtain ⟨up', op', m', p', pid', base', got', ts'⟩ := e'
  simp only at h0 h1 hg hc' hg' hs ⊢
  obtain ⟨d, o, hh⟩ := hearE i0 up op m p pid base got ts f (T.c false) h0 h1 hg hda hak
  rw [hx] at hh
  simp only at hh
  have hp := pair_calls i0 pid up op (nI m) (m : Int) (nI p) (p : Int) (base : Int) (got : Int) ts
  have hp2 := pair_calls i0 pid' up' op' (nI m') (m' : Int) (nI p') (p' : Int) (base' : Int) (got' : Int) ts'
  have hne := nI_eq m' m
  generalize hw : T.w false = w0 at *
  have hat : wrow w0 i = f.frm.fc.c := by rw [← hf]; rfl
  have hat2 : wrow w0 (0 + i) = f.frm.fc.c := by rw [Nat.zero_add]; exact hat
  have g1 : f.frm.fc.c.length = 95 := FC.c_length _
  have g2 := frm_one f.frm
  have g3 := Frm.flat f.frm
  have g4 : splice zF.c 0 f.frm.fc.c = f.frm.fc.c := splice_all _ _ (by rw [g1, FC.c_length])
  have g5 : spart true f.frm.fc.c 0 95 = .agg f.frm.fc.c := FC.part _
  have hwi : IntKind.i64.wrap ((i : Int) + 1) = ((i + 1 : Nat) : Int) := by rw [wrap_i64 _ (by omega)]; rfl
  have ht1 : ((i : Int) - 0).toNat = i := by omega
  have ht2 : ((w0.length : Int) - ((i + 1 : Nat) : Int)).toNat = w0.length - (i + 1) := by omega
  have hwc : IntKind.i64.wrap ((T.c false : Int) + 1) = ((T.c false + 1 : Nat) : Int) := by rw [wrap_i64 _ (by omega)]; rfl
  refine SCall.mk (fn := Try.f135) (by kernel_rfl) rfl (Nat.le_of_ble_eq_true (by kernel_rfl)) ?_
  refine Sem.go (k := 1000) ?_
  simp -dsimp (decide := true) (maxSteps := 1000000) (disch := first | omega | simp (decide := true) only [oncfb0]) only [oncfb1, ↓brun_b, envOf, reduceIte, Nat.reduceEqDiff, Nat.reduceAdd, Nat.reduceSub, Nat.reduceMul, Nat.reduceBEq, Nat.reduceLeDiff, Nat.reduceLT, Int.reduceToNat, rho, hat, hat2, g1, g2, g3, g4, g5]
  refine And.intro (by omega) (And.intro hi ?_)
  refine Sem.cutW [_] ⟨121, 13, [(0, .ptr 0 0 0), (1, .v (.int .i64 0)), (6, .ptr 13 0 0)], [some (.row ⟨10, 1, true, 130, fun _ => [.ptr 1 0 0, .ptr 4 0 0, .slc 14 0 (restOf w0 i).length, .slc 8 0 (T.w true).length, .v (.int .i64 ((T.c false) : Int)), .v (.int .i64 ((T.c true) : Int)), .slc 9 0 (T.s false).length, .slc 10 0 (T.s true).length, .slc 11 0 (T.g false).length, .slc 12 0 (T.g true).length]⟩),
      some (.row ⟨39, 1, true, 204, fun _ => EC.c ⟨i0, .v (.bool (⟨up, op, m, p, pid, base, got, ts⟩ : En).up), .v (.bool (⟨up, op, m, p, pid, base, got, ts⟩ : En).op), .v (.int .i64 (nI (⟨up, op, m, p, pid, base, got, ts⟩ : En).m)), .v (.int .i64 ((⟨up, op, m, p, pid, base, got, ts⟩ : En).m : Int)), .v (.int .i64 (nI (⟨up, op, m, p, pid, base, got, ts⟩ : En).p)), .v (.int .i64 ((⟨up, op, m, p, pid, base, got, ts⟩ : En).p : Int)), (⟨up, op, m, p, pid, base, got, ts⟩ : En).pid, .ptr 2 0 0⟩⟩),
      some (.row ⟨3, 1, true, 197, fun _ => [.v (.int .i64 ((⟨up, op, m, p, pid, base, got, ts⟩ : En).base : Int)), .slc 3 0 (⟨up, op, m, p, pid, base, got, ts⟩ : En).ts.length, .v (.int .i64 ((⟨up, op, m, p, pid, base, got, ts⟩ : En).got : Int))]⟩),
      some (.row ⟨1, (⟨up, op, m, p, pid, base, got, ts⟩ : En).ts.length, true, 35, trow (⟨up, op, m, p, pid, base, got, ts⟩ : En).ts⟩),
      some (.row ⟨39, 1, false, 204, fun _ => EC.c ⟨i1, .v (.bool (T.e true).up), .v (.bool (T.e true).op), .v (.int .i64 (nI (T.e true).m)), .v (.int .i64 ((T.e true).m : Int)), .v (.int .i64 (nI (T.e true).p)), .v (.int .i64 ((T.e true).p : Int)), (T.e true).pid, .ptr 5 0 0⟩⟩),
      some (.row ⟨3, 1, false, 197, fun _ => [.v (.int .i64 ((T.e true).base : Int)), .slc 6 0 (T.e true).ts.length, .v (.int .i64 ((T.e true).got : Int))]⟩),
      some (.row ⟨1, (T.e true).ts.length, false, 35, trow (T.e true).ts⟩),
      none,
      some (.row ⟨95, (T.w true).length, true, 151, wrow (T.w true)⟩),
      some (.row ⟨5, (T.s false).length, false, 137, srow (T.s false)⟩),
      some (.row ⟨5, (T.s true).length, false, 137, srow (T.s true)⟩),
      some (.row ⟨5, (T.g false).length, true, 137, srow (T.g false)⟩),
      some (.row ⟨5, (T.g true).length, false, 137, srow (T.g true)⟩),
      some (.row ⟨95, 1, true, 151, fun _ => f.frm.fc.c⟩),
      some (.row ⟨95, (restOf w0 i).length, true, 151, wrow (restOf w0 i)⟩)]⟩ ?_ ?_
  · refine Sem.draw' (by kernel_rfl) (.one 0 (.one 1 (.one 3 (.one 4 (.one 5 (.one 6 (.one 7 (.one 9 (.one 12 (.one 13 (.one 14 (.one 15 (.one 16 (.one 18 (.one 19 (.one 22 (.one 23 (.alt 2 (.alt 8 (.one 10 (.alt 11 (.alt 17 (.one 20 (.alt 21 (.one 24 (.alt 25 .done .non)) .non)) .non) (.alt 17 (.one 20 (.alt 11 (.alt 21 (.one 24 (.alt 25 .done .non)) .non) .non)) .non))) (.alt 17 (.one 20 (.alt 8 (.one 10 (.alt 11 (.alt 21 (.one 24 (.alt 25 .done .non)) .non) .non)) .non)) .non)) (.alt 8 (.one 10 (.alt 2 (.alt 11 (.alt 17 (.one 20 (.alt 21 (.one 24 (.alt 25 .done .non)) .non)) .non) (.alt 17 (.one 20 (.alt 11 (.alt 21 (.one 24 (.alt 25 .done .non)) .non) .non)) .non)) (.alt 17 (.one 20 (.alt 2 (.alt 11 (.alt 21 (.one 24 (.alt 25 .done .non)) .non) .non) .non)) .non))) (.alt 17 (.one 20 (.alt 2 (.alt 8 (.one 10 (.alt 11 (.alt 21 (.one 24 (.alt 25 .done .non)) .non) .non)) .non) (.alt 8 (.one 10 (.alt 2 (.alt 11 (.alt 21 (.one 24 (.alt 25 .done .non)) .non) .non) .non)) .non))) .non)))))))))))))))))))) [0] (by kernel_rfl) (fun G ff hG hf => ?_)
    simp (decide := true) only [oncfb2, Nat.reduceAdd] at hG ⊢
    simp -dsimp (decide := true) (maxSteps := 1000000) (disch := first | omega | simp (decide := true) only [oncfb0]) only [oncfb3, ↓brun_b, envOf, reduceIte, Nat.reduceEqDiff, Nat.reduceAdd, Nat.reduceSub, Nat.reduceMul, Nat.reduceBEq, Nat.reduceLeDiff, Nat.reduceLT, Int.reduceToNat, rho, hG, hwi, ht1, ht2, sapp1_sl el151]
    (repeat' refine And.intro ?_ ?_)
    all_goals try omega
    all_goals
      refine hf _ (Sem.go (k := 1000) ?_)
      simp (decide := true) only [back_mk, backL_in, backL_row, backL_none, backL_nil, Nat.zero_add, Nat.reduceAdd]
      simp only [lapp_nil]
      simp -dsimp (decide := true) (maxSteps := 1000000) (disch := first | omega | simp (decide := true) only [oncfb0]) only [oncfb1, ↓brun_b, envOf, reduceIte, Nat.reduceEqDiff, Nat.reduceAdd, Nat.reduceSub, Nat.reduceMul, Nat.reduceBEq, Nat.reduceLeDiff, Nat.reduceLT, Int.reduceToNat, rho]
      refine ⟨[0, 1, 2, 3, 4, 5, 6, 7, 8, 9, 10, 11, 12, 13, 16], ?_⟩
      (refine Wk.ofC ?_; simp -dsimp (decide := true) (maxSteps := 1000000) (disch := first | omega | simp (decide := true) only [oncfb0]) only [oncfb4, ↓brun_b, envOf, reduceIte, Nat.reduceEqDiff, Nat.reduceAdd, Nat.reduceSub, Nat.reduceMul, Nat.reduceBEq, Nat.reduceLeDiff, Nat.reduceLT, Int.reduceToNat, rho, hrl, g3, frz1, ↓reduceIte])
      exact fun e he => hre _ _ e
  · refine Sem.go (k := 1000) ?_
    simp -dsimp (decide := true) (maxSteps := 1000000) (disch := first | omega | simp (decide := true) only [oncfb0]) only [oncfb1, ↓brun_b, envOf, reduceIte, Nat.reduceEqDiff, Nat.reduceAdd, Nat.reduceSub, Nat.reduceMul, Nat.reduceBEq, Nat.reduceLeDiff, Nat.reduceLT, Int.reduceToNat, rho]
    refine SemOps.callw [1, 2, 3] cal.f109 (hp) rfl rfl rfl (by simp -dsimp (decide := true) (maxSteps := 1000000) (disch := first | omega | simp (decide := true) only [oncfb0]) only [oncfb4, ↓brun_b, envOf, reduceIte, Nat.reduceEqDiff, Nat.reduceAdd, Nat.reduceSub, Nat.reduceMul, Nat.reduceBEq, Nat.reduceLeDiff, Nat.reduceLT, Int.reduceToNat, rho, frz1, ↓reduceIte]) rfl (by simp -dsimp (decide := true) (maxSteps := 1000000) (disch := first | omega | simp (decide := true) only [oncfb0]) only [oncfb4, ↓brun_b, envOf, reduceIte, Nat.reduceEqDiff, Nat.reduceAdd, Nat.reduceSub, Nat.reduceMul, Nat.reduceBEq, Nat.reduceLeDiff, Nat.reduceLT, Int.reduceToNat, rho, frz1, ↓reduceIte]) (by simp -dsimp (decide := true) (maxSteps := 1000000) (disch := first | omega | simp (decide := true) only [oncfb0]) only [oncfc2, ↓brun_b, envOf, reduceIte, Nat.reduceEqDiff, Nat.reduceAdd, Nat.reduceSub, Nat.reduceMul, Nat.reduceBEq, Nat.reduceLeDiff, Nat.reduceLT, Int.reduceToNat]) ?_
    refine SemOps.go (k := 1000) ?_
    simp -dsimp (decide := true) (maxSteps := 1000000) (disch := first | omega | simp (decide := true) only [oncfb0]) only [oncfb1, ↓brun_b, envOf, reduceIte, Nat.reduceEqDiff, Nat.reduceAdd, Nat.reduceSub, Nat.reduceMul, Nat.reduceBEq, Nat.reduceLeDiff, Nat.reduceLT, Int.reduceToNat, rho]
    refine Sem.cutW [_] ⟨121, 13, [(0, .ptr 0 0 0), (1, .v (.int .i64 0)), (7, .ptr 14 0 0), (9, .ptr 17 0 0)], [some (.row ⟨10, 1, true, 130, fun _ => [.ptr 1 0 0, .ptr 4 0 0, .slc 13 0 (restOf w0 i).length, .slc 8 0 (T.w true).length, .v (.int .i64 ((T.c false) : Int)), .v (.int .i64 ((T.c true) : Int)), .slc 9 0 (T.s false).length, .slc 10 0 (T.s true).length, .slc 11 0 (T.g false).length, .slc 12 0 (T.g true).length]⟩),
      some (.row ⟨39, 1, true, 204, fun _ => EC.c ⟨i0, .v (.bool (⟨up', op', m', p', pid', base', got', ts'⟩ : En).up), .v (.bool (⟨up', op', m', p', pid', base', got', ts'⟩ : En).op), .v (.int .i64 (nI (⟨up', op', m', p', pid', base', got', ts'⟩ : En).m)), .v (.int .i64 ((⟨up', op', m', p', pid', base', got', ts'⟩ : En).m : Int)), .v (.int .i64 (nI (⟨up', op', m', p', pid', base', got', ts'⟩ : En).p)), .v (.int .i64 ((⟨up', op', m', p', pid', base', got', ts'⟩ : En).p : Int)), (⟨up', op', m', p', pid', base', got', ts'⟩ : En).pid, .ptr 15 0 0⟩⟩),
      none,
      none,
      some (.row ⟨39, 1, false, 204, fun _ => EC.c ⟨i1, .v (.bool (T.e true).up), .v (.bool (T.e true).op), .v (.int .i64 (nI (T.e true).m)), .v (.int .i64 ((T.e true).m : Int)), .v (.int .i64 (nI (T.e true).p)), .v (.int .i64 ((T.e true).p : Int)), (T.e true).pid, .ptr 5 0 0⟩⟩),
      some (.row ⟨3, 1, false, 197, fun _ => [.v (.int .i64 ((T.e true).base : Int)), .slc 6 0 (T.e true).ts.length, .v (.int .i64 ((T.e true).got : Int))]⟩),
      some (.row ⟨1, (T.e true).ts.length, false, 35, trow (T.e true).ts⟩),
      none,
      some (.row ⟨95, (T.w true).length, true, 151, wrow (T.w true)⟩),
      some (.row ⟨5, (T.s false).length, false, 137, srow (T.s false)⟩),
      some (.row ⟨5, (T.s true).length, false, 137, srow (T.s true)⟩),
      some (.row ⟨5, (T.g false).length, true, 137, srow (T.g false)⟩),
      some (.row ⟨5, (T.g true).length, false, 137, srow (T.g true)⟩),
      some (.row ⟨95, (restOf w0 i).length, true, 151, wrow (restOf w0 i)⟩),
      some (.row ⟨2, 1, true, 135, fun _ => [.v (.int .i64 (nI m)), .v (.int .i64 (m : Int))]⟩),
      some (.row ⟨3, 1, true, 197, fun _ => [.v (.int .i64 ((⟨up', op', m', p', pid', base', got', ts'⟩ : En).base : Int)), .slc 16 0 (⟨up', op', m', p', pid', base', got', ts'⟩ : En).ts.length, .v (.int .i64 ((⟨up', op', m', p', pid', base', got', ts'⟩ : En).got : Int))]⟩),
      some (.row ⟨1, (⟨up', op', m', p', pid', base', got', ts'⟩ : En).ts.length, true, 35, trow (⟨up', op', m', p', pid', base', got', ts'⟩ : En).ts⟩),
      some (.row ⟨5, 1, true, 162, fun _ => [.v (.bool d), .v (.bool o), bsl (ot.getD []), .v (.bool ot.isSome), .rsl 95 (frows (out.map Ms.frm))]⟩)]⟩ ?_ ?_
    · refine Sem.draw' (by kernel_rfl) (.one 0 (.one 1 (.one 2 (.one 3 (.one 4 (.one 5 (.one 6 (.one 7 (.one 8 (.one 9 (.one 10 (.one 11 (.one 12 (.one 13 (.one 14 (.alt 15 (.alt 16 (.alt 17 .done .non) .non) (.alt 16 (.alt 15 (.alt 17 .done .non) .non) .non))))))))))))))))) [1, 2, 3] (by kernel_rfl) (fun G ff hG hf => ?_)
      simp (decide := true) only [oncfb2, Nat.reduceAdd] at hG ⊢
      simp -dsimp (decide := true) (maxSteps := 1000000) (disch := first | omega | simp (decide := true) only [oncfb0]) only [oncfb6, ↓brun_b, envOf, reduceIte, Nat.reduceEqDiff, Nat.reduceAdd, Nat.reduceSub, Nat.reduceMul, Nat.reduceBEq, Nat.reduceLeDiff, Nat.reduceLT, Int.reduceToNat, rho, hG, g1, g2, g3, g5, hwc]
      (repeat' refine And.intro ?_ ?_)
      all_goals
        refine OpSem.callw [1, 2, 3] cal.f106 (hh) rfl rfl (by simp -dsimp (decide := true) (maxSteps := 1000000) (disch := first | omega | simp (decide := true) only [oncfb0]) only [oncfb4, ↓brun_b, envOf, reduceIte, Nat.reduceEqDiff, Nat.reduceAdd, Nat.reduceSub, Nat.reduceMul, Nat.reduceBEq, Nat.reduceLeDiff, Nat.reduceLT, Int.reduceToNat, rho, frz1, ↓reduceIte]) rfl (by simp -dsimp (decide := true) (maxSteps := 1000000) (disch := first | omega | simp (decide := true) only [oncfb0]) only [oncfb4, ↓brun_b, envOf, reduceIte, Nat.reduceEqDiff, Nat.reduceAdd, Nat.reduceSub, Nat.reduceMul, Nat.reduceBEq, Nat.reduceLeDiff, Nat.reduceLT, Int.reduceToNat, rho, frz1, ↓reduceIte]) (by simp -dsimp (decide := true) (maxSteps := 1000000) (disch := first | omega | simp (decide := true) only [oncfb0]) only [oncfc2, ↓brun_b, envOf, reduceIte, Nat.reduceEqDiff, Nat.reduceAdd, Nat.reduceSub, Nat.reduceMul, Nat.reduceBEq, Nat.reduceLeDiff, Nat.reduceLT, Int.reduceToNat]) ?_
        simp -dsimp (decide := true) (maxSteps := 1000000) (disch := first | omega | simp (decide := true) only [oncfb0]) only [oncfb1, ↓brun_b, envOf, reduceIte, Nat.reduceEqDiff, Nat.reduceAdd, Nat.reduceSub, Nat.reduceMul, Nat.reduceBEq, Nat.reduceLeDiff, Nat.reduceLT, Int.reduceToNat, rho, hG]
        (repeat' refine And.intro ?_ ?_)
        all_goals
          refine hf _ (Sem.go (k := 1000) ?_)
          simp (decide := true) only [back_mk, backL_in, backL_row, backL_none, backL_nil, Nat.zero_add, Nat.reduceAdd]
          simp only [lapp_nil]
          simp -dsimp (decide := true) (maxSteps := 1000000) (disch := first | omega | simp (decide := true) only [oncfb0]) only [oncfb1, ↓brun_b, envOf, reduceIte, Nat.reduceEqDiff, Nat.reduceAdd, Nat.reduceSub, Nat.reduceMul, Nat.reduceBEq, Nat.reduceLeDiff, Nat.reduceLT, Int.reduceToNat, rho]
          first
          | (refine ⟨[0, 1, 2, 3, 4, 5, 6, 7, 8, 9, 10, 11, 12, 14, 15, 17, 18, 19], ?_⟩
             (refine Wk.ofC ?_; simp -dsimp (decide := true) (maxSteps := 1000000) (disch := first | omega | simp (decide := true) only [oncfb0]) only [oncfb4, ↓brun_b, envOf, reduceIte, Nat.reduceEqDiff, Nat.reduceAdd, Nat.reduceSub, Nat.reduceMul, Nat.reduceBEq, Nat.reduceLeDiff, Nat.reduceLT, Int.reduceToNat, rho, bsl, frz1, ↓reduceIte])
             done)
          | (refine ⟨[0, 1, 2, 3, 4, 5, 6, 7, 8, 9, 10, 11, 12, 14, 15, 18, 19, 17], ?_⟩
             (refine Wk.ofC ?_; simp -dsimp (decide := true) (maxSteps := 1000000) (disch := first | omega | simp (decide := true) only [oncfb0]) only [oncfb4, ↓brun_b, envOf, reduceIte, Nat.reduceEqDiff, Nat.reduceAdd, Nat.reduceSub, Nat.reduceMul, Nat.reduceBEq, Nat.reduceLeDiff, Nat.reduceLT, Int.reduceToNat, rho, bsl, frz1, ↓reduceIte])
             done)
    · refine Sem.go (k := 1000) ?_
      simp -dsimp (decide := true) (maxSteps := 1000000) (disch := first | omega | simp (decide := true) only [oncfb0]) only [oncfb1, ↓brun_b, envOf, reduceIte, Nat.reduceEqDiff, Nat.reduceAdd, Nat.reduceSub, Nat.reduceMul, Nat.reduceBEq, Nat.reduceLeDiff, Nat.reduceLT, Int.reduceToNat, rho]
      refine SemOps.callw [1, 15, 16] cal.f109 (hp2) rfl rfl rfl (by simp -dsimp (decide := true) (maxSteps := 1000000) (disch := first | omega | simp (decide := true) only [oncfb0]) only [oncfb4, ↓brun_b, envOf, reduceIte, Nat.reduceEqDiff, Nat.reduceAdd, Nat.reduceSub, Nat.reduceMul, Nat.reduceBEq, Nat.reduceLeDiff, Nat.reduceLT, Int.reduceToNat, rho, frz1, ↓reduceIte]) rfl (by simp -dsimp (decide := true) (maxSteps := 1000000) (disch := first | omega | simp (decide := true) only [oncfb0]) only [oncfb4, ↓brun_b, envOf, reduceIte, Nat.reduceEqDiff, Nat.reduceAdd, Nat.reduceSub, Nat.reduceMul, Nat.reduceBEq, Nat.reduceLeDiff, Nat.reduceLT, Int.reduceToNat, rho, frz1, ↓reduceIte]) (by simp -dsimp (decide := true) (maxSteps := 1000000) (disch := first | omega | simp (decide := true) only [oncfb0]) only [oncfc2, ↓brun_b, envOf, reduceIte, Nat.reduceEqDiff, Nat.reduceAdd, Nat.reduceSub, Nat.reduceMul, Nat.reduceBEq, Nat.reduceLeDiff, Nat.reduceLT, Int.reduceToNat]) ?_
      refine SemOps.go (k := 1000) ?_
      by_cases hm : m' = m
      · rw [decide_eq_true hm] at hne
        rw [if_pos hm] at hc'
        subst hc'
        cases ot with
        | none =>
          simp only [addG] at hg'
          subst hg'
          simp -dsimp (decide := true) (maxSteps := 1000000) (disch := first | omega | simp (decide := true) only [oncfb0]) only [oncfb1, ↓brun_b, envOf, reduceIte, Nat.reduceEqDiff, Nat.reduceAdd, Nat.reduceSub, Nat.reduceMul, Nat.reduceBEq, Nat.reduceLeDiff, Nat.reduceLT, Int.reduceToNat, rho, sBin_agg .eql 23 _ _ _ (I16.cellsEq _ _), sBin_agg .eql 135 _ _ _ (ceq135 _ _ _ _), sBin_agg .neq 23 _ _ _ (I16.cellsEq _ _), sBin_agg .neq 135 _ _ _ (ceq135 _ _ _ _), hne, Option.getD_none, Option.isSome_none]
          refine And.intro (flat135 _ _ _ _) ?_
          refine SemOps.weakenM (s' := ⟨121, 13, [(116, .ptr 0 0 0), (117, .v (.int .i64 0)), (119, .rsl 95 (frows (out.map Ms.frm)))], [some (.row ⟨10, 1, true, 130, fun _ => [.ptr 1 0 0, .ptr 4 0 0, .slc 13 0 (restOf w0 i).length, .slc 8 0 (T.w true).length, .v (.int .i64 ((T.c false) : Int)), .v (.int .i64 ((T.c true) : Int)), .slc 9 0 (T.s false).length, .slc 10 0 (T.s true).length, .slc 16 0 (T.g false).length, .slc 12 0 (T.g true).length]⟩),
                some (.row ⟨39, 1, true, 204, fun _ => EC.c ⟨i0, .v (.bool (⟨up', op', m', p', pid', base', got', ts'⟩ : En).up), .v (.bool (⟨up', op', m', p', pid', base', got', ts'⟩ : En).op), .v (.int .i64 (nI (⟨up', op', m', p', pid', base', got', ts'⟩ : En).m)), .v (.int .i64 ((⟨up', op', m', p', pid', base', got', ts'⟩ : En).m : Int)), .v (.int .i64 (nI (⟨up', op', m', p', pid', base', got', ts'⟩ : En).p)), .v (.int .i64 ((⟨up', op', m', p', pid', base', got', ts'⟩ : En).p : Int)), (⟨up', op', m', p', pid', base', got', ts'⟩ : En).pid, .ptr 14 0 0⟩⟩),
                none,
                none,
                some (.row ⟨39, 1, false, 204, fun _ => EC.c ⟨i1, .v (.bool (T.e true).up), .v (.bool (T.e true).op), .v (.int .i64 (nI (T.e true).m)), .v (.int .i64 ((T.e true).m : Int)), .v (.int .i64 (nI (T.e true).p)), .v (.int .i64 ((T.e true).p : Int)), (T.e true).pid, .ptr 5 0 0⟩⟩),
                some (.row ⟨3, 1, false, 197, fun _ => [.v (.int .i64 ((T.e true).base : Int)), .slc 6 0 (T.e true).ts.length, .v (.int .i64 ((T.e true).got : Int))]⟩),
                some (.row ⟨1, (T.e true).ts.length, false, 35, trow (T.e true).ts⟩),
                none,
                some (.row ⟨95, (T.w true).length, true, 151, wrow (T.w true)⟩),
                some (.row ⟨5, (T.s false).length, false, 137, srow (T.s false)⟩),
                some (.row ⟨5, (T.s true).length, false, 137, srow (T.s true)⟩),
                none,
                some (.row ⟨5, (T.g true).length, false, 137, srow (T.g true)⟩),
                some (.row ⟨95, (restOf w0 i).length, true, 151, wrow (restOf w0 i)⟩),
                some (.row ⟨3, 1, true, 197, fun _ => [.v (.int .i64 ((⟨up', op', m', p', pid', base', got', ts'⟩ : En).base : Int)), .slc 15 0 (⟨up', op', m', p', pid', base', got', ts'⟩ : En).ts.length, .v (.int .i64 ((⟨up', op', m', p', pid', base', got', ts'⟩ : En).got : Int))]⟩),
                some (.row ⟨1, (⟨up', op', m', p', pid', base', got', ts'⟩ : En).ts.length, true, 35, trow (⟨up', op', m', p', pid', base', got', ts'⟩ : En).ts⟩),
                some (.row ⟨5, (T.g false).length, true, 137, srow (T.g false)⟩)]⟩) [0, 1, 2, 3, 4, 5, 6, 7, 8, 9, 10, 11, 12, 13, 15, 16, 11] ⟨rfl, rfl, rfl, rfl, rfl, rfl, ?_, ?_⟩ ?_
          · simp -dsimp (decide := true) (maxSteps := 1000000) (disch := first | omega | simp (decide := true) only [oncfb0]) only [oncfb4, ↓brun_b, envOf, reduceIte, Nat.reduceEqDiff, Nat.reduceAdd, Nat.reduceSub, Nat.reduceMul, Nat.reduceBEq, Nat.reduceLeDiff, Nat.reduceLT, Int.reduceToNat, rho, frz1, ↓reduceIte]
          · simp -dsimp (decide := true) (maxSteps := 1000000) (disch := first | omega | simp (decide := true) only [oncfb0]) only [oncfb4, ↓brun_b, envOf, reduceIte, Nat.reduceEqDiff, Nat.reduceAdd, Nat.reduceSub, Nat.reduceMul, Nat.reduceBEq, Nat.reduceLeDiff, Nat.reduceLT, Int.reduceToNat, rho, frz1, ↓reduceIte]
          refine SemOps.callw [0, 1, 14, 15, 4, 5, 6, 13, 8, 9, 10, 16, 12] cal.f134 (hs) rfl rfl rfl (by simp -dsimp (decide := true) (maxSteps := 1000000) (disch := first | omega | simp (decide := true) only [oncfb0]) only [oncfb4, ↓brun_b, envOf, reduceIte, Nat.reduceEqDiff, Nat.reduceAdd, Nat.reduceSub, Nat.reduceMul, Nat.reduceBEq, Nat.reduceLeDiff, Nat.reduceLT, Int.reduceToNat, rho, frz1, ↓reduceIte]) rfl (by simp -dsimp (decide := true) (maxSteps := 1000000) (disch := first | omega | simp (decide := true) only [oncfb0]) only [oncfb4, ↓brun_b, envOf, reduceIte, Nat.reduceEqDiff, Nat.reduceAdd, Nat.reduceSub, Nat.reduceMul, Nat.reduceBEq, Nat.reduceLeDiff, Nat.reduceLT, Int.reduceToNat, rho, frz1, ↓reduceIte]) (by simp -dsimp (decide := true) (maxSteps := 1000000) (disch := first | omega | simp (decide := true) only [oncfb0]) only [oncfc2, ↓brun_b, envOf, reduceIte, Nat.reduceEqDiff, Nat.reduceAdd, Nat.reduceSub, Nat.reduceMul, Nat.reduceBEq, Nat.reduceLeDiff, Nat.reduceLT, Int.reduceToNat]) ?_
          refine SemOps.go (k := 1000) ?_
          simp -dsimp (decide := true) (maxSteps := 1000000) (disch := first | omega | simp (decide := true) only [oncfb0]) only [oncfb1, ↓brun_b, envOf, reduceIte, Nat.reduceEqDiff, Nat.reduceAdd, Nat.reduceSub, Nat.reduceMul, Nat.reduceBEq, Nat.reduceLeDiff, Nat.reduceLT, Int.reduceToNat, rho]
          refine SQ.fin (SQ.runL (rs := []) [0, 1, 2, 3, 4, 5, 6, 7, 8, 9, 10, 11, 12, 14, 15, 13, 17, 16] _ _ rfl (And.intro rfl rfl) (by decide) rfl rfl ?_ ?_)
          · simp -dsimp (decide := true) (maxSteps := 1000000) (disch := first | omega | simp (decide := true) only [oncfb0]) only [oncfb4, ↓brun_b, envOf, reduceIte, Nat.reduceEqDiff, Nat.reduceAdd, Nat.reduceSub, Nat.reduceMul, Nat.reduceBEq, Nat.reduceLeDiff, Nat.reduceLT, Int.reduceToNat, rho, frz1, ↓reduceIte]
          · simp -dsimp (decide := true) (maxSteps := 1000000) (disch := first | omega | simp (decide := true) only [oncfb0]) only [oncfb4, ↓brun_b, envOf, reduceIte, Nat.reduceEqDiff, Nat.reduceAdd, Nat.reduceSub, Nat.reduceMul, Nat.reduceBEq, Nat.reduceLeDiff, Nat.reduceLT, Int.reduceToNat, rho, frz1, ↓reduceIte]
            exact Ent.eq rfl
        | some tx =>
          simp only [addG] at hg'
          simp -dsimp (decide := true) (maxSteps := 1000000) (disch := first | omega | simp (decide := true) only [oncfb0]) only [oncfb1, ↓brun_b, envOf, reduceIte, Nat.reduceEqDiff, Nat.reduceAdd, Nat.reduceSub, Nat.reduceMul, Nat.reduceBEq, Nat.reduceLeDiff, Nat.reduceLT, Int.reduceToNat, rho, sBin_agg .eql 23 _ _ _ (I16.cellsEq _ _), sBin_agg .eql 135 _ _ _ (ceq135 _ _ _ _), sBin_agg .neq 23 _ _ _ (I16.cellsEq _ _), sBin_agg .neq 135 _ _ _ (ceq135 _ _ _ _), hne, Option.getD_some, Option.isSome_some]
          refine And.intro (flat135 _ _ _ _) ?_
          refine Sem.draw' (by kernel_rfl) (.one 0 (.one 1 (.one 2 (.one 3 (.one 4 (.one 5 (.one 6 (.one 8 (.one 9 (.one 10 (.one 11 (.one 12 (.one 13 (.one 16 (.one 17 (.alt 7 (.alt 14 (.alt 15 (.one 18 (.alt 19 .done .non)) .non) .non) (.alt 14 (.alt 7 (.alt 15 (.one 18 (.alt 19 .done .non)) .non) .non) .non))))))))))))))))) [0, 11] (by kernel_rfl) (fun G ff hG hf => ?_)
          simp (decide := true) only [oncfb2, Nat.reduceAdd] at hG ⊢
          simp -dsimp (decide := true) (maxSteps := 1000000) (disch := first | omega | simp (decide := true) only [oncfb0]) only [oncfb7, ↓brun_b, envOf, reduceIte, Nat.reduceEqDiff, Nat.reduceAdd, Nat.reduceSub, Nat.reduceMul, Nat.reduceBEq, Nat.reduceLeDiff, Nat.reduceLT, Int.reduceToNat, rho, hG, sapp1_sl el137]
          (repeat' refine And.intro ?_ ?_)
          all_goals try omega
          all_goals
            refine hf _ (Sem.go (k := 1000) ?_)
            simp (decide := true) only [back_mk, backL_in, backL_row, backL_none, backL_nil, Nat.zero_add, Nat.reduceAdd]
            simp -dsimp (decide := true) (maxSteps := 1000000) (disch := first | omega | simp (decide := true) only [oncfb0]) only [oncfb1, ↓brun_b, envOf, reduceIte, Nat.reduceEqDiff, Nat.reduceAdd, Nat.reduceSub, Nat.reduceMul, Nat.reduceBEq, Nat.reduceLeDiff, Nat.reduceLT, Int.reduceToNat, rho]
            have eg : g'.length = ((T.g false)).length + 1 := by rw [hg']; simp
            refine SemOps.weakenM (s' := ⟨121, 13, [(116, .ptr 0 0 0), (117, .v (.int .i64 0)), (119, .rsl 95 (frows (out.map Ms.frm)))], [some (.row ⟨10, 1, true, 130, fun _ => [.ptr 1 0 0, .ptr 4 0 0, .slc 13 0 (restOf w0 i).length, .slc 8 0 (T.w true).length, .v (.int .i64 ((T.c false) : Int)), .v (.int .i64 ((T.c true) : Int)), .slc 9 0 (T.s false).length, .slc 10 0 (T.s true).length, .slc 16 0 g'.length, .slc 12 0 (T.g true).length]⟩),
                  some (.row ⟨39, 1, true, 204, fun _ => EC.c ⟨i0, .v (.bool (⟨up', op', m', p', pid', base', got', ts'⟩ : En).up), .v (.bool (⟨up', op', m', p', pid', base', got', ts'⟩ : En).op), .v (.int .i64 (nI (⟨up', op', m', p', pid', base', got', ts'⟩ : En).m)), .v (.int .i64 ((⟨up', op', m', p', pid', base', got', ts'⟩ : En).m : Int)), .v (.int .i64 (nI (⟨up', op', m', p', pid', base', got', ts'⟩ : En).p)), .v (.int .i64 ((⟨up', op', m', p', pid', base', got', ts'⟩ : En).p : Int)), (⟨up', op', m', p', pid', base', got', ts'⟩ : En).pid, .ptr 14 0 0⟩⟩),
                  none,
                  none,
                  some (.row ⟨39, 1, false, 204, fun _ => EC.c ⟨i1, .v (.bool (T.e true).up), .v (.bool (T.e true).op), .v (.int .i64 (nI (T.e true).m)), .v (.int .i64 ((T.e true).m : Int)), .v (.int .i64 (nI (T.e true).p)), .v (.int .i64 ((T.e true).p : Int)), (T.e true).pid, .ptr 5 0 0⟩⟩),
                  some (.row ⟨3, 1, false, 197, fun _ => [.v (.int .i64 ((T.e true).base : Int)), .slc 6 0 (T.e true).ts.length, .v (.int .i64 ((T.e true).got : Int))]⟩),
                  some (.row ⟨1, (T.e true).ts.length, false, 35, trow (T.e true).ts⟩),
                  none,
                  some (.row ⟨95, (T.w true).length, true, 151, wrow (T.w true)⟩),
                  some (.row ⟨5, (T.s false).length, false, 137, srow (T.s false)⟩),
                  some (.row ⟨5, (T.s true).length, false, 137, srow (T.s true)⟩),
                  none,
                  some (.row ⟨5, (T.g true).length, false, 137, srow (T.g true)⟩),
                  some (.row ⟨95, (restOf w0 i).length, true, 151, wrow (restOf w0 i)⟩),
                  some (.row ⟨3, 1, true, 197, fun _ => [.v (.int .i64 ((⟨up', op', m', p', pid', base', got', ts'⟩ : En).base : Int)), .slc 15 0 (⟨up', op', m', p', pid', base', got', ts'⟩ : En).ts.length, .v (.int .i64 ((⟨up', op', m', p', pid', base', got', ts'⟩ : En).got : Int))]⟩),
                  some (.row ⟨1, (⟨up', op', m', p', pid', base', got', ts'⟩ : En).ts.length, true, 35, trow (⟨up', op', m', p', pid', base', got', ts'⟩ : En).ts⟩),
                  some (.row ⟨5, g'.length, true, 137, srow g'⟩)]⟩) [0, 1, 2, 3, 4, 5, 6, 7, 8, 9, 10, 11, 12, 13, 15, 16, 21] ⟨rfl, rfl, rfl, rfl, rfl, rfl, ?_, ?_⟩ ?_
            · simp -dsimp (decide := true) (maxSteps := 1000000) (disch := first | omega | simp (decide := true) only [oncfb0]) only [oncfb4, ↓brun_b, envOf, reduceIte, Nat.reduceEqDiff, Nat.reduceAdd, Nat.reduceSub, Nat.reduceMul, Nat.reduceBEq, Nat.reduceLeDiff, Nat.reduceLT, Int.reduceToNat, rho, eg, frz1, ↓reduceIte]
            · simp -dsimp (decide := true) (maxSteps := 1000000) (disch := first | omega | simp (decide := true) only [oncfb0]) only [oncfb4, ↓brun_b, envOf, reduceIte, Nat.reduceEqDiff, Nat.reduceAdd, Nat.reduceSub, Nat.reduceMul, Nat.reduceBEq, Nat.reduceLeDiff, Nat.reduceLT, Int.reduceToNat, rho, eg, frz1, ↓reduceIte]
              rw [hg']
              exact fun e he => app_srow _ ⟨m', p', tx⟩ e he
            refine SemOps.callw [0, 1, 14, 15, 4, 5, 6, 13, 8, 9, 10, 16, 12] cal.f134 (hs) rfl rfl rfl (by simp -dsimp (decide := true) (maxSteps := 1000000) (disch := first | omega | simp (decide := true) only [oncfb0]) only [oncfb4, ↓brun_b, envOf, reduceIte, Nat.reduceEqDiff, Nat.reduceAdd, Nat.reduceSub, Nat.reduceMul, Nat.reduceBEq, Nat.reduceLeDiff, Nat.reduceLT, Int.reduceToNat, rho, eg, frz1, ↓reduceIte]) rfl (by simp -dsimp (decide := true) (maxSteps := 1000000) (disch := first | omega | simp (decide := true) only [oncfb0]) only [oncfb4, ↓brun_b, envOf, reduceIte, Nat.reduceEqDiff, Nat.reduceAdd, Nat.reduceSub, Nat.reduceMul, Nat.reduceBEq, Nat.reduceLeDiff, Nat.reduceLT, Int.reduceToNat, rho, eg, frz1, ↓reduceIte]) (by simp -dsimp (decide := true) (maxSteps := 1000000) (disch := first | omega | simp (decide := true) only [oncfb0]) only [oncfc2, ↓brun_b, envOf, reduceIte, Nat.reduceEqDiff, Nat.reduceAdd, Nat.reduceSub, Nat.reduceMul, Nat.reduceBEq, Nat.reduceLeDiff, Nat.reduceLT, Int.reduceToNat]) ?_
            refine SemOps.go (k := 1000) ?_
            simp -dsimp (decide := true) (maxSteps := 1000000) (disch := first | omega | simp (decide := true) only [oncfb0]) only [oncfb1, ↓brun_b, envOf, reduceIte, Nat.reduceEqDiff, Nat.reduceAdd, Nat.reduceSub, Nat.reduceMul, Nat.reduceBEq, Nat.reduceLeDiff, Nat.reduceLT, Int.reduceToNat, rho]
            refine SQ.fin (SQ.runL (rs := []) [0, 1, 2, 3, 4, 5, 6, 7, 8, 9, 10, 11, 12, 14, 15, 13, 17, 16] _ _ rfl (And.intro rfl rfl) (by decide) rfl rfl ?_ ?_)
            · simp -dsimp (decide := true) (maxSteps := 1000000) (disch := first | omega | simp (decide := true) only [oncfb0]) only [oncfb4, ↓brun_b, envOf, reduceIte, Nat.reduceEqDiff, Nat.reduceAdd, Nat.reduceSub, Nat.reduceMul, Nat.reduceBEq, Nat.reduceLeDiff, Nat.reduceLT, Int.reduceToNat, rho, frz1, ↓reduceIte]
            · simp -dsimp (decide := true) (maxSteps := 1000000) (disch := first | omega | simp (decide := true) only [oncfb0]) only [oncfb4, ↓brun_b, envOf, reduceIte, Nat.reduceEqDiff, Nat.reduceAdd, Nat.reduceSub, Nat.reduceMul, Nat.reduceBEq, Nat.reduceLeDiff, Nat.reduceLT, Int.reduceToNat, rho, frz1, ↓reduceIte]
              exact Ent.eq rfl
      · rw [decide_eq_false hm] at hne
        rw [if_neg hm] at hc'
        subst hc'
        cases ot with
        | none =>
          simp only [addG] at hg'
          subst hg'
          simp -dsimp (decide := true) (maxSteps := 1000000) (disch := first | omega | simp (decide := true) only [oncfb0]) only [oncfb1, ↓brun_b, envOf, reduceIte, Nat.reduceEqDiff, Nat.reduceAdd, Nat.reduceSub, Nat.reduceMul, Nat.reduceBEq, Nat.reduceLeDiff, Nat.reduceLT, Int.reduceToNat, rho, sBin_agg .eql 23 _ _ _ (I16.cellsEq _ _), sBin_agg .eql 135 _ _ _ (ceq135 _ _ _ _), sBin_agg .neq 23 _ _ _ (I16.cellsEq _ _), sBin_agg .neq 135 _ _ _ (ceq135 _ _ _ _), hne, Option.getD_none, Option.isSome_none]
          refine And.intro (flat135 _ _ _ _) ?_
          refine Sem.draw' (by kernel_rfl) (.one 0 (.one 1 (.one 2 (.one 3 (.one 4 (.one 7 (.one 8 (.alt 5 (.one 6 (.one 9 (.alt 10 .done .non))) .non)))))))) [0] (by kernel_rfl) (fun G ff hG hf => ?_)
          simp (decide := true) only [oncfb2, Nat.reduceAdd] at hG ⊢
          simp -dsimp (decide := true) (maxSteps := 1000000) (disch := first | omega | simp (decide := true) only [oncfb0]) only [oncfb1, ↓brun_b, envOf, reduceIte, Nat.reduceEqDiff, Nat.reduceAdd, Nat.reduceSub, Nat.reduceMul, Nat.reduceBEq, Nat.reduceLeDiff, Nat.reduceLT, Int.reduceToNat, rho, hG, hwc]
          refine hf _ (Sem.go (k := 1000) ?_)
          simp (decide := true) only [back_mk, backL_in, backL_row, backL_none, backL_nil, Nat.zero_add, Nat.reduceAdd]
          simp -dsimp (decide := true) (maxSteps := 1000000) (disch := first | omega | simp (decide := true) only [oncfb0]) only [oncfb1, ↓brun_b, envOf, reduceIte, Nat.reduceEqDiff, Nat.reduceAdd, Nat.reduceSub, Nat.reduceMul, Nat.reduceBEq, Nat.reduceLeDiff, Nat.reduceLT, Int.reduceToNat, rho]
          refine SemOps.weakenM (s' := ⟨121, 13, [(116, .ptr 0 0 0), (117, .v (.int .i64 0)), (119, .rsl 95 (frows (out.map Ms.frm)))], [some (.row ⟨10, 1, true, 130, fun _ => [.ptr 1 0 0, .ptr 4 0 0, .slc 13 0 (restOf w0 i).length, .slc 8 0 (T.w true).length, .v (.int .i64 (((T.c false) + 1 : Nat) : Int)), .v (.int .i64 ((T.c true) : Int)), .slc 9 0 (T.s false).length, .slc 10 0 (T.s true).length, .slc 16 0 (T.g false).length, .slc 12 0 (T.g true).length]⟩),
                some (.row ⟨39, 1, true, 204, fun _ => EC.c ⟨i0, .v (.bool (⟨up', op', m', p', pid', base', got', ts'⟩ : En).up), .v (.bool (⟨up', op', m', p', pid', base', got', ts'⟩ : En).op), .v (.int .i64 (nI (⟨up', op', m', p', pid', base', got', ts'⟩ : En).m)), .v (.int .i64 ((⟨up', op', m', p', pid', base', got', ts'⟩ : En).m : Int)), .v (.int .i64 (nI (⟨up', op', m', p', pid', base', got', ts'⟩ : En).p)), .v (.int .i64 ((⟨up', op', m', p', pid', base', got', ts'⟩ : En).p : Int)), (⟨up', op', m', p', pid', base', got', ts'⟩ : En).pid, .ptr 14 0 0⟩⟩),
                none,
                none,
                some (.row ⟨39, 1, false, 204, fun _ => EC.c ⟨i1, .v (.bool (T.e true).up), .v (.bool (T.e true).op), .v (.int .i64 (nI (T.e true).m)), .v (.int .i64 ((T.e true).m : Int)), .v (.int .i64 (nI (T.e true).p)), .v (.int .i64 ((T.e true).p : Int)), (T.e true).pid, .ptr 5 0 0⟩⟩),
                some (.row ⟨3, 1, false, 197, fun _ => [.v (.int .i64 ((T.e true).base : Int)), .slc 6 0 (T.e true).ts.length, .v (.int .i64 ((T.e true).got : Int))]⟩),
                some (.row ⟨1, (T.e true).ts.length, false, 35, trow (T.e true).ts⟩),
                none,
                some (.row ⟨95, (T.w true).length, true, 151, wrow (T.w true)⟩),
                some (.row ⟨5, (T.s false).length, false, 137, srow (T.s false)⟩),
                some (.row ⟨5, (T.s true).length, false, 137, srow (T.s true)⟩),
                none,
                some (.row ⟨5, (T.g true).length, false, 137, srow (T.g true)⟩),
                some (.row ⟨95, (restOf w0 i).length, true, 151, wrow (restOf w0 i)⟩),
                some (.row ⟨3, 1, true, 197, fun _ => [.v (.int .i64 ((⟨up', op', m', p', pid', base', got', ts'⟩ : En).base : Int)), .slc 15 0 (⟨up', op', m', p', pid', base', got', ts'⟩ : En).ts.length, .v (.int .i64 ((⟨up', op', m', p', pid', base', got', ts'⟩ : En).got : Int))]⟩),
                some (.row ⟨1, (⟨up', op', m', p', pid', base', got', ts'⟩ : En).ts.length, true, 35, trow (⟨up', op', m', p', pid', base', got', ts'⟩ : En).ts⟩),
                some (.row ⟨5, (T.g false).length, true, 137, srow (T.g false)⟩)]⟩) [0, 1, 2, 3, 4, 5, 6, 7, 8, 9, 10, 11, 12, 13, 15, 16, 11] ⟨rfl, rfl, rfl, rfl, rfl, rfl, ?_, ?_⟩ ?_
          · simp -dsimp (decide := true) (maxSteps := 1000000) (disch := first | omega | simp (decide := true) only [oncfb0]) only [oncfb4, ↓brun_b, envOf, reduceIte, Nat.reduceEqDiff, Nat.reduceAdd, Nat.reduceSub, Nat.reduceMul, Nat.reduceBEq, Nat.reduceLeDiff, Nat.reduceLT, Int.reduceToNat, rho, frz1, ↓reduceIte]
          · simp -dsimp (decide := true) (maxSteps := 1000000) (disch := first | omega | simp (decide := true) only [oncfb0]) only [oncfb4, ↓brun_b, envOf, reduceIte, Nat.reduceEqDiff, Nat.reduceAdd, Nat.reduceSub, Nat.reduceMul, Nat.reduceBEq, Nat.reduceLeDiff, Nat.reduceLT, Int.reduceToNat, rho, frz1, ↓reduceIte]
          refine SemOps.callw [0, 1, 14, 15, 4, 5, 6, 13, 8, 9, 10, 16, 12] cal.f134 (hs) rfl rfl rfl (by simp -dsimp (decide := true) (maxSteps := 1000000) (disch := first | omega | simp (decide := true) only [oncfb0]) only [oncfb4, ↓brun_b, envOf, reduceIte, Nat.reduceEqDiff, Nat.reduceAdd, Nat.reduceSub, Nat.reduceMul, Nat.reduceBEq, Nat.reduceLeDiff, Nat.reduceLT, Int.reduceToNat, rho, frz1, ↓reduceIte]) rfl (by simp -dsimp (decide := true) (maxSteps := 1000000) (disch := first | omega | simp (decide := true) only [oncfb0]) only [oncfb4, ↓brun_b, envOf, reduceIte, Nat.reduceEqDiff, Nat.reduceAdd, Nat.reduceSub, Nat.reduceMul, Nat.reduceBEq, Nat.reduceLeDiff, Nat.reduceLT, Int.reduceToNat, rho, frz1, ↓reduceIte]) (by simp -dsimp (decide := true) (maxSteps := 1000000) (disch := first | omega | simp (decide := true) only [oncfb0]) only [oncfc2, ↓brun_b, envOf, reduceIte, Nat.reduceEqDiff, Nat.reduceAdd, Nat.reduceSub, Nat.reduceMul, Nat.reduceBEq, Nat.reduceLeDiff, Nat.reduceLT, Int.reduceToNat]) ?_
          refine SemOps.go (k := 1000) ?_
          simp -dsimp (decide := true) (maxSteps := 1000000) (disch := first | omega | simp (decide := true) only [oncfb0]) only [oncfb1, ↓brun_b, envOf, reduceIte, Nat.reduceEqDiff, Nat.reduceAdd, Nat.reduceSub, Nat.reduceMul, Nat.reduceBEq, Nat.reduceLeDiff, Nat.reduceLT, Int.reduceToNat, rho]
          refine SQ.fin (SQ.runL (rs := []) [0, 1, 2, 3, 4, 5, 6, 7, 8, 9, 10, 11, 12, 14, 15, 13, 17, 16] _ _ rfl (And.intro rfl rfl) (by decide) rfl rfl ?_ ?_)
          · simp -dsimp (decide := true) (maxSteps := 1000000) (disch := first | omega | simp (decide := true) only [oncfb0]) only [oncfb4, ↓brun_b, envOf, reduceIte, Nat.reduceEqDiff, Nat.reduceAdd, Nat.reduceSub, Nat.reduceMul, Nat.reduceBEq, Nat.reduceLeDiff, Nat.reduceLT, Int.reduceToNat, rho, frz1, ↓reduceIte]
          · simp -dsimp (decide := true) (maxSteps := 1000000) (disch := first | omega | simp (decide := true) only [oncfb0]) only [oncfb4, ↓brun_b, envOf, reduceIte, Nat.reduceEqDiff, Nat.reduceAdd, Nat.reduceSub, Nat.reduceMul, Nat.reduceBEq, Nat.reduceLeDiff, Nat.reduceLT, Int.reduceToNat, rho, frz1, ↓reduceIte]
            exact Ent.eq rfl
        | some tx =>
          simp only [addG] at hg'
          simp -dsimp (decide := true) (maxSteps := 1000000) (disch := first | omega | simp (decide := true) only [oncfb0]) only [oncfb1, ↓brun_b, envOf, reduceIte, Nat.reduceEqDiff, Nat.reduceAdd, Nat.reduceSub, Nat.reduceMul, Nat.reduceBEq, Nat.reduceLeDiff, Nat.reduceLT, Int.reduceToNat, rho, sBin_agg .eql 23 _ _ _ (I16.cellsEq _ _), sBin_agg .eql 135 _ _ _ (ceq135 _ _ _ _), sBin_agg .neq 23 _ _ _ (I16.cellsEq _ _), sBin_agg .neq 135 _ _ _ (ceq135 _ _ _ _), hne, Option.getD_some, Option.isSome_some]
          refine And.intro (flat135 _ _ _ _) ?_
          refine Sem.draw' (by kernel_rfl) (.one 0 (.one 1 (.one 2 (.one 3 (.one 4 (.one 7 (.one 8 (.alt 5 (.one 6 (.one 9 (.alt 10 .done .non))) .non)))))))) [0] (by kernel_rfl) (fun G ff hG hf => ?_)
          simp (decide := true) only [oncfb2, Nat.reduceAdd] at hG ⊢
          simp -dsimp (decide := true) (maxSteps := 1000000) (disch := first | omega | simp (decide := true) only [oncfb0]) only [oncfb1, ↓brun_b, envOf, reduceIte, Nat.reduceEqDiff, Nat.reduceAdd, Nat.reduceSub, Nat.reduceMul, Nat.reduceBEq, Nat.reduceLeDiff, Nat.reduceLT, Int.reduceToNat, rho, hG, hwc]
          refine hf _ (Sem.go (k := 1000) ?_)
          simp (decide := true) only [back_mk, backL_in, backL_row, backL_none, backL_nil, Nat.zero_add, Nat.reduceAdd]
          simp -dsimp (decide := true) (maxSteps := 1000000) (disch := first | omega | simp (decide := true) only [oncfb0]) only [oncfb1, ↓brun_b, envOf, reduceIte, Nat.reduceEqDiff, Nat.reduceAdd, Nat.reduceSub, Nat.reduceMul, Nat.reduceBEq, Nat.reduceLeDiff, Nat.reduceLT, Int.reduceToNat, rho]
          refine Sem.draw' (by kernel_rfl) (.one 0 (.one 1 (.one 2 (.one 3 (.one 4 (.one 5 (.one 6 (.one 8 (.one 9 (.one 10 (.one 11 (.one 12 (.one 13 (.one 16 (.one 17 (.alt 7 (.alt 14 (.alt 15 (.one 18 (.alt 19 .done .non)) .non) .non) (.alt 14 (.alt 7 (.alt 15 (.one 18 (.alt 19 .done .non)) .non) .non) .non))))))))))))))))) [0, 11] (by kernel_rfl) (fun G ff hG hf => ?_)
          simp (decide := true) only [oncfb2, Nat.reduceAdd] at hG ⊢
          simp -dsimp (decide := true) (maxSteps := 1000000) (disch := first | omega | simp (decide := true) only [oncfb0]) only [oncfb7, ↓brun_b, envOf, reduceIte, Nat.reduceEqDiff, Nat.reduceAdd, Nat.reduceSub, Nat.reduceMul, Nat.reduceBEq, Nat.reduceLeDiff, Nat.reduceLT, Int.reduceToNat, rho, hG, sapp1_sl el137]
          (repeat' refine And.intro ?_ ?_)
          all_goals try omega
          all_goals
            refine hf _ (Sem.go (k := 1000) ?_)
            simp (decide := true) only [back_mk, backL_in, backL_row, backL_none, backL_nil, Nat.zero_add, Nat.reduceAdd]
            simp -dsimp (decide := true) (maxSteps := 1000000) (disch := first | omega | simp (decide := true) only [oncfb0]) only [oncfb1, ↓brun_b, envOf, reduceIte, Nat.reduceEqDiff, Nat.reduceAdd, Nat.reduceSub, Nat.reduceMul, Nat.reduceBEq, Nat.reduceLeDiff, Nat.reduceLT, Int.reduceToNat, rho]
            have eg : g'.length = ((T.g false)).length + 1 := by rw [hg']; simp
            refine SemOps.weakenM (s' := ⟨121, 13, [(116, .ptr 0 0 0), (117, .v (.int .i64 0)), (119, .rsl 95 (frows (out.map Ms.frm)))], [some (.row ⟨10, 1, true, 130, fun _ => [.ptr 1 0 0, .ptr 4 0 0, .slc 13 0 (restOf w0 i).length, .slc 8 0 (T.w true).length, .v (.int .i64 (((T.c false) + 1 : Nat) : Int)), .v (.int .i64 ((T.c true) : Int)), .slc 9 0 (T.s false).length, .slc 10 0 (T.s true).length, .slc 16 0 g'.length, .slc 12 0 (T.g true).length]⟩),
                  some (.row ⟨39, 1, true, 204, fun _ => EC.c ⟨i0, .v (.bool (⟨up', op', m', p', pid', base', got', ts'⟩ : En).up), .v (.bool (⟨up', op', m', p', pid', base', got', ts'⟩ : En).op), .v (.int .i64 (nI (⟨up', op', m', p', pid', base', got', ts'⟩ : En).m)), .v (.int .i64 ((⟨up', op', m', p', pid', base', got', ts'⟩ : En).m : Int)), .v (.int .i64 (nI (⟨up', op', m', p', pid', base', got', ts'⟩ : En).p)), .v (.int .i64 ((⟨up', op', m', p', pid', base', got', ts'⟩ : En).p : Int)), (⟨up', op', m', p', pid', base', got', ts'⟩ : En).pid, .ptr 14 0 0⟩⟩),
                  none,
                  none,
                  some (.row ⟨39, 1, false, 204, fun _ => EC.c ⟨i1, .v (.bool (T.e true).up), .v (.bool (T.e true).op), .v (.int .i64 (nI (T.e true).m)), .v (.int .i64 ((T.e true).m : Int)), .v (.int .i64 (nI (T.e true).p)), .v (.int .i64 ((T.e true).p : Int)), (T.e true).pid, .ptr 5 0 0⟩⟩),
                  some (.row ⟨3, 1, false, 197, fun _ => [.v (.int .i64 ((T.e true).base : Int)), .slc 6 0 (T.e true).ts.length, .v (.int .i64 ((T.e true).got : Int))]⟩),
                  some (.row ⟨1, (T.e true).ts.length, false, 35, trow (T.e true).ts⟩),
                  none,
                  some (.row ⟨95, (T.w true).length, true, 151, wrow (T.w true)⟩),
                  some (.row ⟨5, (T.s false).length, false, 137, srow (T.s false)⟩),
                  some (.row ⟨5, (T.s true).length, false, 137, srow (T.s true)⟩),
                  none,
                  some (.row ⟨5, (T.g true).length, false, 137, srow (T.g true)⟩),
                  some (.row ⟨95, (restOf w0 i).length, true, 151, wrow (restOf w0 i)⟩),
                  some (.row ⟨3, 1, true, 197, fun _ => [.v (.int .i64 ((⟨up', op', m', p', pid', base', got', ts'⟩ : En).base : Int)), .slc 15 0 (⟨up', op', m', p', pid', base', got', ts'⟩ : En).ts.length, .v (.int .i64 ((⟨up', op', m', p', pid', base', got', ts'⟩ : En).got : Int))]⟩),
                  some (.row ⟨1, (⟨up', op', m', p', pid', base', got', ts'⟩ : En).ts.length, true, 35, trow (⟨up', op', m', p', pid', base', got', ts'⟩ : En).ts⟩),
                  some (.row ⟨5, g'.length, true, 137, srow g'⟩)]⟩) [0, 1, 2, 3, 4, 5, 6, 7, 8, 9, 10, 11, 12, 13, 15, 16, 21] ⟨rfl, rfl, rfl, rfl, rfl, rfl, ?_, ?_⟩ ?_
            · simp -dsimp (decide := true) (maxSteps := 1000000) (disch := first | omega | simp (decide := true) only [oncfb0]) only [oncfb4, ↓brun_b, envOf, reduceIte, Nat.reduceEqDiff, Nat.reduceAdd, Nat.reduceSub, Nat.reduceMul, Nat.reduceBEq, Nat.reduceLeDiff, Nat.reduceLT, Int.reduceToNat, rho, eg, frz1, ↓reduceIte]
            · simp -dsimp (decide := true) (maxSteps := 1000000) (disch := first | omega | simp (decide := true) only [oncfb0]) only [oncfb4, ↓brun_b, envOf, reduceIte, Nat.reduceEqDiff, Nat.reduceAdd, Nat.reduceSub, Nat.reduceMul, Nat.reduceBEq, Nat.reduceLeDiff, Nat.reduceLT, Int.reduceToNat, rho, eg, frz1, ↓reduceIte]
              rw [hg']
              exact fun e he => app_srow _ ⟨m', p', tx⟩ e he
            refine SemOps.callw [0, 1, 14, 15, 4, 5, 6, 13, 8, 9, 10, 16, 12] cal.f134 (hs) rfl rfl rfl (by simp -dsimp (decide := true) (maxSteps := 1000000) (disch := first | omega | simp (decide := true) only [oncfb0]) only [oncfb4, ↓brun_b, envOf, reduceIte, Nat.reduceEqDiff, Nat.reduceAdd, Nat.reduceSub, Nat.reduceMul, Nat.reduceBEq, Nat.reduceLeDiff, Nat.reduceLT, Int.reduceToNat, rho, eg, frz1, ↓reduceIte]) rfl (by simp -dsimp (decide := true) (maxSteps := 1000000) (disch := first | omega | simp (decide := true) only [oncfb0]) only [oncfb4, ↓brun_b, envOf, reduceIte, Nat.reduceEqDiff, Nat.reduceAdd, Nat.reduceSub, Nat.reduceMul, Nat.reduceBEq, Nat.reduceLeDiff, Nat.reduceLT, Int.reduceToNat, rho, eg, frz1, ↓reduceIte]) (by simp -dsimp (decide := true) (maxSteps := 1000000) (disch := first | omega | simp (decide := true) only [oncfb0]) only [oncfc2, ↓brun_b, envOf, reduceIte, Nat.reduceEqDiff, Nat.reduceAdd, Nat.reduceSub, Nat.reduceMul, Nat.reduceBEq, Nat.reduceLeDiff, Nat.reduceLT, Int.reduceToNat]) ?_
            refine SemOps.go (k := 1000) ?_
            simp -dsimp (decide := true) (maxSteps := 1000000) (disch := first | omega | simp (decide := true) only [oncfb0]) only [oncfb1, ↓brun_b, envOf, reduceIte, Nat.reduceEqDiff, Nat.reduceAdd, Nat.reduceSub, Nat.reduceMul, Nat.reduceBEq, Nat.reduceLeDiff, Nat.reduceLT, Int.reduceToNat, rho]
            refine SQ.fin (SQ.runL (rs := []) [0, 1, 2, 3, 4, 5, 6, 7, 8, 9, 10, 11, 12, 14, 15, 13, 17, 16] _ _ rfl (And.intro rfl rfl) (by decide) rfl rfl ?_ ?_)
            · simp -dsimp (decide := true) (maxSteps := 1000000) (disch := first | omega | simp (decide := true) only [oncfb0]) only [oncfb4, ↓brun_b, envOf, reduceIte, Nat.reduceEqDiff, Nat.reduceAdd, Nat.reduceSub, Nat.reduceMul, Nat.reduceBEq, Nat.reduceLeDiff, Nat.reduceLT, Int.reduceToNat, rho, frz1, ↓reduceIte]
            · simp -dsimp (decide := true) (maxSteps := 1000000) (disch := first | omega | simp (decide := true) only [oncfb0]) only [oncfb4, ↓brun_b, envOf, reduceIte, Nat.reduceEqDiff, Nat.reduceAdd, Nat.reduceSub, Nat.reduceMul, Nat.reduceBEq, Nat.reduceLeDiff, Nat.reduceLT, Int.reduceToNat, rho, frz1, ↓reduceIte]
              exact Ent.eq rfl
set_option maxHeartbeats 4000000 in
theorem come1 (i0 i1 : I16) (T : Tk) (i : Nat) (f : Ms) (hi : i < (T.w true).length) (hf : (T.w true).getD i (.ak 0 0 0) = f) (hwl : (T.w true).length ≤ 200)
    (h0 : (T.e true).base + (T.e true).ts.length < 4611686018427387904) (h1 : (T.e true).ts.length * 24 ≤ 140737488355328) (hg : ((T.e true).got : Int) < 4611686018427387904)
    (hda : ∀ a b n t, f = .da a b n t → I64 (n : Int) ∧ t.length ≤ 140737488355328) (hak : ∀ a b n, f = .ak a b n → I64 (n : Int)) (hc : T.c true < 1000000) (hgl : (T.g true).length < 1000000)
    (e' : En) (ot : Option Tx) (out : List Ms) (hx : hear i1 (T.e true) f (T.c true + 1) = (e', ot, out)) (hout : out.length < 1000000) (c' : Nat) (hc' : c' = if e'.m = (T.e true).m then T.c true else T.c true + 1)
    (g' : List Snt) (hg' : g' = addG (T.g true) e'.m e'.p ot) :
    SCall Try.prog 135 [.ptr 0 0 0, .v (.int .i64 1), .v (.int .i64 (i : Int))] [some (.row ⟨10, 1, true, 130, fun _ => [.ptr 1 0 0, .ptr 4 0 0, .slc 7 0 (T.w false).length, .slc 8 0 (T.w true).length, .v (.int .i64 ((T.c false) : Int)), .v (.int .i64 ((T.c true) : Int)), .slc 9 0 (T.s false).length, .slc 10 0 (T.s true).length, .slc 11 0 (T.g false).length, .slc 12 0 (T.g true).length]⟩),
      some (.row ⟨39, 1, false, 204, fun _ => EC.c ⟨i0, .v (.bool (T.e false).up), .v (.bool (T.e false).op), .v (.int .i64 (nI (T.e false).m)), .v (.int .i64 ((T.e false).m : Int)), .v (.int .i64 (nI (T.e false).p)), .v (.int .i64 ((T.e false).p : Int)), (T.e false).pid, .ptr 2 0 0⟩⟩),
      some (.row ⟨3, 1, false, 197, fun _ => [.v (.int .i64 ((T.e false).base : Int)), .slc 3 0 (T.e false).ts.length, .v (.int .i64 ((T.e false).got : Int))]⟩),
      some (.row ⟨1, (T.e false).ts.length, false, 35, trow (T.e false).ts⟩),
      some (.row ⟨39, 1, true, 204, fun _ => EC.c ⟨i1, .v (.bool (T.e true).up), .v (.bool (T.e true).op), .v (.int .i64 (nI (T.e true).m)), .v (.int .i64 ((T.e true).m : Int)), .v (.int .i64 (nI (T.e true).p)), .v (.int .i64 ((T.e true).p : Int)), (T.e true).pid, .ptr 5 0 0⟩⟩),
      some (.row ⟨3, 1, true, 197, fun _ => [.v (.int .i64 ((T.e true).base : Int)), .slc 6 0 (T.e true).ts.length, .v (.int .i64 ((T.e true).got : Int))]⟩),
      some (.row ⟨1, (T.e true).ts.length, true, 35, trow (T.e true).ts⟩),
      some (.row ⟨95, (T.w false).length, true, 151, wrow (T.w false)⟩),
      some (.row ⟨95, (T.w true).length, true, 151, wrow (T.w true)⟩),
      some (.row ⟨5, (T.s false).length, false, 137, srow (T.s false)⟩),
      some (.row ⟨5, (T.s true).length, false, 137, srow (T.s true)⟩),
      some (.row ⟨5, (T.g false).length, false, 137, srow (T.g false)⟩),
      some (.row ⟨5, (T.g true).length, true, 137, srow (T.g true)⟩)]
      fun r L => r = .ret (.tup []) ∧ L = [some (.row ⟨10, 1, true, 130, fun _ => [.ptr 1 0 0, .ptr 4 0 0, .slc 16 0 (sayL (T.w false) out).length, .slc 15 0 (restOf (T.w true) i).length, .v (.int .i64 ((T.c false) : Int)), .v (.int .i64 (c' : Int)), .slc 9 0 (T.s false).length, .slc 10 0 (T.s true).length, .slc 11 0 (T.g false).length, .slc 17 0 g'.length]⟩),
      none,
      none,
      none,
      some (.row ⟨39, 1, true, 204, fun _ => EC.c ⟨i1, .v (.bool e'.up), .v (.bool e'.op), .v (.int .i64 (nI e'.m)), .v (.int .i64 (e'.m : Int)), .v (.int .i64 (nI e'.p)), .v (.int .i64 (e'.p : Int)), e'.pid, .ptr 13 0 0⟩⟩),
      none,
      none,
      none,
      none,
      none,
      none,
      none,
      none,
      some (.row ⟨3, 1, true, 197, fun _ => [.v (.int .i64 (e'.base : Int)), .slc 14 0 e'.ts.length, .v (.int .i64 (e'.got : Int))]⟩),
      some (.row ⟨1, e'.ts.length, true, 35, trow e'.ts⟩),
      some (.row ⟨95, (restOf (T.w true) i).length, true, 151, wrow (restOf (T.w true) i)⟩),
      some (.row ⟨95, (sayL (T.w false) out).length, true, 151, wrow (sayL (T.w false) out)⟩),
      some (.row ⟨5, g'.length, true, 137, srow g'⟩)] := by
  have hrl := restOf_len (T.w true) i hi
  have hre := fun fz ρ => @restOf_ent fz ρ (T.w true) i hi []
  have hs := say1 i0 i1 ⟨upd T.e true e', upd T.w true (restOf (T.w true) i), upd T.c true c', T.s, upd T.g true g'⟩ out (by omega)
  simp only [upd_ff, upd_tt, upd_ft, upd_tf] at hs
  generalize he : T.e true = e at *
  obtain ⟨up, op, m, p, pid, base, got, ts⟩ := e
  obtain ⟨up', op', m', p', pid', base', got', ts'⟩ := e'
  simp only at h0 h1 hg hc' hg' hs ⊢
  obtain ⟨d, o, hh⟩ := hearE i1 up op m p pid base got ts f (T.c true) h0 h1 hg hda hak
  rw [hx] at hh
  simp only at hh
  have hp := pair_calls i1 pid up op (nI m) (m : Int) (nI p) (p : Int) (base : Int) (got : Int) ts
  have hp2 := pair_calls i1 pid' up' op' (nI m') (m' : Int) (nI p') (p' : Int) (base' : Int) (got' : Int) ts'
  have hne := nI_eq m' m
  generalize hw : T.w true = w0 at *
  have hat : wrow w0 i = f.frm.fc.c := by rw [← hf]; rfl
  have hat2 : wrow w0 (0 + i) = f.frm.fc.c := by rw [Nat.zero_add]; exact hat
  have g1 : f.frm.fc.c.length = 95 := FC.c_length _
  have g2 := frm_one f.frm
  have g3 := Frm.flat f.frm
  have g4 : splice zF.c 0 f.frm.fc.c = f.frm.fc.c := splice_all _ _ (by rw [g1, FC.c_length])
  have g5 : spart true f.frm.fc.c 0 95 = .agg f.frm.fc.c := FC.part _
  have hwi : IntKind.i64.wrap ((i : Int) + 1) = ((i + 1 : Nat) : Int) := by rw [wrap_i64 _ (by omega)]; rfl
  have ht1 : ((i : Int) - 0).toNat = i := by omega
  have ht2 : ((w0.length : Int) - ((i + 1 : Nat) : Int)).toNat = w0.length - (i + 1) := by omega
  have hwc : IntKind.i64.wrap ((T.c true : Int) + 1) = ((T.c true + 1 : Nat) : Int) := by rw [wrap_i64 _ (by omega)]; rfl
  refine SCall.mk (fn := Try.f135) (by kernel_rfl) rfl (Nat.le_of_ble_eq_true (by kernel_rfl)) ?_
  refine Sem.go (k := 1000) ?_
  simp -dsimp (decide := true) (maxSteps := 1000000) (disch := first | omega | simp (decide := true) only [oncfb0]) only [oncfb1, ↓brun_b, envOf, reduceIte, Nat.reduceEqDiff, Nat.reduceAdd, Nat.reduceSub, Nat.reduceMul, Nat.reduceBEq, Nat.reduceLeDiff, Nat.reduceLT, Int.reduceToNat, rho, hat, hat2, g1, g2, g3, g4, g5]
  refine And.intro (by omega) (And.intro hi ?_)
  refine Sem.cutW [_] ⟨121, 13, [(0, .ptr 0 0 0), (1, .v (.int .i64 1)), (6, .ptr 13 0 0)], [some (.row ⟨10, 1, true, 130, fun _ => [.ptr 1 0 0, .ptr 4 0 0, .slc 7 0 (T.w false).length, .slc 14 0 (restOf w0 i).length, .v (.int .i64 ((T.c false) : Int)), .v (.int .i64 ((T.c true) : Int)), .slc 9 0 (T.s false).length, .slc 10 0 (T.s true).length, .slc 11 0 (T.g false).length, .slc 12 0 (T.g true).length]⟩),
      some (.row ⟨39, 1, false, 204, fun _ => EC.c ⟨i0, .v (.bool (T.e false).up), .v (.bool (T.e false).op), .v (.int .i64 (nI (T.e false).m)), .v (.int .i64 ((T.e false).m : Int)), .v (.int .i64 (nI (T.e false).p)), .v (.int .i64 ((T.e false).p : Int)), (T.e false).pid, .ptr 2 0 0⟩⟩),
      some (.row ⟨3, 1, false, 197, fun _ => [.v (.int .i64 ((T.e false).base : Int)), .slc 3 0 (T.e false).ts.length, .v (.int .i64 ((T.e false).got : Int))]⟩),
      some (.row ⟨1, (T.e false).ts.length, false, 35, trow (T.e false).ts⟩),
      some (.row ⟨39, 1, true, 204, fun _ => EC.c ⟨i1, .v (.bool (⟨up, op, m, p, pid, base, got, ts⟩ : En).up), .v (.bool (⟨up, op, m, p, pid, base, got, ts⟩ : En).op), .v (.int .i64 (nI (⟨up, op, m, p, pid, base, got, ts⟩ : En).m)), .v (.int .i64 ((⟨up, op, m, p, pid, base, got, ts⟩ : En).m : Int)), .v (.int .i64 (nI (⟨up, op, m, p, pid, base, got, ts⟩ : En).p)), .v (.int .i64 ((⟨up, op, m, p, pid, base, got, ts⟩ : En).p : Int)), (⟨up, op, m, p, pid, base, got, ts⟩ : En).pid, .ptr 5 0 0⟩⟩),
      some (.row ⟨3, 1, true, 197, fun _ => [.v (.int .i64 ((⟨up, op, m, p, pid, base, got, ts⟩ : En).base : Int)), .slc 6 0 (⟨up, op, m, p, pid, base, got, ts⟩ : En).ts.length, .v (.int .i64 ((⟨up, op, m, p, pid, base, got, ts⟩ : En).got : Int))]⟩),
      some (.row ⟨1, (⟨up, op, m, p, pid, base, got, ts⟩ : En).ts.length, true, 35, trow (⟨up, op, m, p, pid, base, got, ts⟩ : En).ts⟩),
      some (.row ⟨95, (T.w false).length, true, 151, wrow (T.w false)⟩),
      none,
      some (.row ⟨5, (T.s false).length, false, 137, srow (T.s false)⟩),
      some (.row ⟨5, (T.s true).length, false, 137, srow (T.s true)⟩),
      some (.row ⟨5, (T.g false).length, false, 137, srow (T.g false)⟩),
      some (.row ⟨5, (T.g true).length, true, 137, srow (T.g true)⟩),
      some (.row ⟨95, 1, true, 151, fun _ => f.frm.fc.c⟩),
      some (.row ⟨95, (restOf w0 i).length, true, 151, wrow (restOf w0 i)⟩)]⟩ ?_ ?_
  · refine Sem.draw' (by kernel_rfl) (.one 0 (.one 1 (.one 3 (.one 4 (.one 5 (.one 6 (.one 7 (.one 9 (.one 12 (.one 13 (.one 14 (.one 15 (.one 16 (.one 18 (.one 19 (.one 22 (.one 23 (.alt 2 (.alt 8 (.one 10 (.alt 11 (.alt 17 (.one 20 (.alt 21 (.one 24 (.alt 25 .done .non)) .non)) .non) (.alt 17 (.one 20 (.alt 11 (.alt 21 (.one 24 (.alt 25 .done .non)) .non) .non)) .non))) (.alt 17 (.one 20 (.alt 8 (.one 10 (.alt 11 (.alt 21 (.one 24 (.alt 25 .done .non)) .non) .non)) .non)) .non)) (.alt 8 (.one 10 (.alt 2 (.alt 11 (.alt 17 (.one 20 (.alt 21 (.one 24 (.alt 25 .done .non)) .non)) .non) (.alt 17 (.one 20 (.alt 11 (.alt 21 (.one 24 (.alt 25 .done .non)) .non) .non)) .non)) (.alt 17 (.one 20 (.alt 2 (.alt 11 (.alt 21 (.one 24 (.alt 25 .done .non)) .non) .non) .non)) .non))) (.alt 17 (.one 20 (.alt 2 (.alt 8 (.one 10 (.alt 11 (.alt 21 (.one 24 (.alt 25 .done .non)) .non) .non)) .non) (.alt 8 (.one 10 (.alt 2 (.alt 11 (.alt 21 (.one 24 (.alt 25 .done .non)) .non) .non) .non)) .non))) .non)))))))))))))))))))) [0] (by kernel_rfl) (fun G ff hG hf => ?_)
    simp (decide := true) only [oncfb2, Nat.reduceAdd] at hG ⊢
    simp -dsimp (decide := true) (maxSteps := 1000000) (disch := first | omega | simp (decide := true) only [oncfb0]) only [oncfb3, ↓brun_b, envOf, reduceIte, Nat.reduceEqDiff, Nat.reduceAdd, Nat.reduceSub, Nat.reduceMul, Nat.reduceBEq, Nat.reduceLeDiff, Nat.reduceLT, Int.reduceToNat, rho, hG, hwi, ht1, ht2, sapp1_sl el151]
    (repeat' refine And.intro ?_ ?_)
    all_goals try omega
    all_goals
      refine hf _ (Sem.go (k := 1000) ?_)
      simp (decide := true) only [back_mk, backL_in, backL_row, backL_none, backL_nil, Nat.zero_add, Nat.reduceAdd]
      simp only [lapp_nil]
      simp -dsimp (decide := true) (maxSteps := 1000000) (disch := first | omega | simp (decide := true) only [oncfb0]) only [oncfb1, ↓brun_b, envOf, reduceIte, Nat.reduceEqDiff, Nat.reduceAdd, Nat.reduceSub, Nat.reduceMul, Nat.reduceBEq, Nat.reduceLeDiff, Nat.reduceLT, Int.reduceToNat, rho]
      refine ⟨[0, 1, 2, 3, 4, 5, 6, 7, 8, 9, 10, 11, 12, 13, 16], ?_⟩
      (refine Wk.ofC ?_; simp -dsimp (decide := true) (maxSteps := 1000000) (disch := first | omega | simp (decide := true) only [oncfb0]) only [oncfb4, ↓brun_b, envOf, reduceIte, Nat.reduceEqDiff, Nat.reduceAdd, Nat.reduceSub, Nat.reduceMul, Nat.reduceBEq, Nat.reduceLeDiff, Nat.reduceLT, Int.reduceToNat, rho, hrl, g3, frz1, ↓reduceIte])
      exact fun e he => hre _ _ e
  · refine Sem.go (k := 1000) ?_
    simp -dsimp (decide := true) (maxSteps := 1000000) (disch := first | omega | simp (decide := true) only [oncfb0]) only [oncfb1, ↓brun_b, envOf, reduceIte, Nat.reduceEqDiff, Nat.reduceAdd, Nat.reduceSub, Nat.reduceMul, Nat.reduceBEq, Nat.reduceLeDiff, Nat.reduceLT, Int.reduceToNat, rho]
    refine SemOps.callw [4, 5, 6] cal.f109 (hp) rfl rfl rfl (by simp -dsimp (decide := true) (maxSteps := 1000000) (disch := first | omega | simp (decide := true) only [oncfb0]) only [oncfb4, ↓brun_b, envOf, reduceIte, Nat.reduceEqDiff, Nat.reduceAdd, Nat.reduceSub, Nat.reduceMul, Nat.reduceBEq, Nat.reduceLeDiff, Nat.reduceLT, Int.reduceToNat, rho, frz1, ↓reduceIte]) rfl (by simp -dsimp (decide := true) (maxSteps := 1000000) (disch := first | omega | simp (decide := true) only [oncfb0]) only [oncfb4, ↓brun_b, envOf, reduceIte, Nat.reduceEqDiff, Nat.reduceAdd, Nat.reduceSub, Nat.reduceMul, Nat.reduceBEq, Nat.reduceLeDiff, Nat.reduceLT, Int.reduceToNat, rho, frz1, ↓reduceIte]) (by simp -dsimp (decide := true) (maxSteps := 1000000) (disch := first | omega | simp (decide := true) only [oncfb0]) only [oncfc2, ↓brun_b, envOf, reduceIte, Nat.reduceEqDiff, Nat.reduceAdd, Nat.reduceSub, Nat.reduceMul, Nat.reduceBEq, Nat.reduceLeDiff, Nat.reduceLT, Int.reduceToNat]) ?_
    refine SemOps.go (k := 1000) ?_
    simp -dsimp (decide := true) (maxSteps := 1000000) (disch := first | omega | simp (decide := true) only [oncfb0]) only [oncfb1, ↓brun_b, envOf, reduceIte, Nat.reduceEqDiff, Nat.reduceAdd, Nat.reduceSub, Nat.reduceMul, Nat.reduceBEq, Nat.reduceLeDiff, Nat.reduceLT, Int.reduceToNat, rho]
    refine Sem.cutW [_] ⟨121, 13, [(0, .ptr 0 0 0), (1, .v (.int .i64 1)), (7, .ptr 14 0 0), (9, .ptr 17 0 0)], [some (.row ⟨10, 1, true, 130, fun _ => [.ptr 1 0 0, .ptr 4 0 0, .slc 7 0 (T.w false).length, .slc 13 0 (restOf w0 i).length, .v (.int .i64 ((T.c false) : Int)), .v (.int .i64 ((T.c true) : Int)), .slc 9 0 (T.s false).length, .slc 10 0 (T.s true).length, .slc 11 0 (T.g false).length, .slc 12 0 (T.g true).length]⟩),
      some (.row ⟨39, 1, false, 204, fun _ => EC.c ⟨i0, .v (.bool (T.e false).up), .v (.bool (T.e false).op), .v (.int .i64 (nI (T.e false).m)), .v (.int .i64 ((T.e false).m : Int)), .v (.int .i64 (nI (T.e false).p)), .v (.int .i64 ((T.e false).p : Int)), (T.e false).pid, .ptr 2 0 0⟩⟩),
      some (.row ⟨3, 1, false, 197, fun _ => [.v (.int .i64 ((T.e false).base : Int)), .slc 3 0 (T.e false).ts.length, .v (.int .i64 ((T.e false).got : Int))]⟩),
      some (.row ⟨1, (T.e false).ts.length, false, 35, trow (T.e false).ts⟩),
      some (.row ⟨39, 1, true, 204, fun _ => EC.c ⟨i1, .v (.bool (⟨up', op', m', p', pid', base', got', ts'⟩ : En).up), .v (.bool (⟨up', op', m', p', pid', base', got', ts'⟩ : En).op), .v (.int .i64 (nI (⟨up', op', m', p', pid', base', got', ts'⟩ : En).m)), .v (.int .i64 ((⟨up', op', m', p', pid', base', got', ts'⟩ : En).m : Int)), .v (.int .i64 (nI (⟨up', op', m', p', pid', base', got', ts'⟩ : En).p)), .v (.int .i64 ((⟨up', op', m', p', pid', base', got', ts'⟩ : En).p : Int)), (⟨up', op', m', p', pid', base', got', ts'⟩ : En).pid, .ptr 15 0 0⟩⟩),
      none,
      none,
      some (.row ⟨95, (T.w false).length, true, 151, wrow (T.w false)⟩),
      none,
      some (.row ⟨5, (T.s false).length, false, 137, srow (T.s false)⟩),
      some (.row ⟨5, (T.s true).length, false, 137, srow (T.s true)⟩),
      some (.row ⟨5, (T.g false).length, false, 137, srow (T.g false)⟩),
      some (.row ⟨5, (T.g true).length, true, 137, srow (T.g true)⟩),
      some (.row ⟨95, (restOf w0 i).length, true, 151, wrow (restOf w0 i)⟩),
      some (.row ⟨2, 1, true, 135, fun _ => [.v (.int .i64 (nI m)), .v (.int .i64 (m : Int))]⟩),
      some (.row ⟨3, 1, true, 197, fun _ => [.v (.int .i64 ((⟨up', op', m', p', pid', base', got', ts'⟩ : En).base : Int)), .slc 16 0 (⟨up', op', m', p', pid', base', got', ts'⟩ : En).ts.length, .v (.int .i64 ((⟨up', op', m', p', pid', base', got', ts'⟩ : En).got : Int))]⟩),
      some (.row ⟨1, (⟨up', op', m', p', pid', base', got', ts'⟩ : En).ts.length, true, 35, trow (⟨up', op', m', p', pid', base', got', ts'⟩ : En).ts⟩),
      some (.row ⟨5, 1, true, 162, fun _ => [.v (.bool d), .v (.bool o), bsl (ot.getD []), .v (.bool ot.isSome), .rsl 95 (frows (out.map Ms.frm))]⟩)]⟩ ?_ ?_
    · refine Sem.draw' (by kernel_rfl) (.one 0 (.one 1 (.one 2 (.one 3 (.one 4 (.one 5 (.one 6 (.one 7 (.one 8 (.one 9 (.one 10 (.one 11 (.one 12 (.one 13 (.one 14 (.alt 15 (.alt 16 (.alt 17 .done .non) .non) (.alt 16 (.alt 15 (.alt 17 .done .non) .non) .non))))))))))))))))) [4, 5, 6] (by kernel_rfl) (fun G ff hG hf => ?_)
      simp (decide := true) only [oncfb2, Nat.reduceAdd] at hG ⊢
      simp -dsimp (decide := true) (maxSteps := 1000000) (disch := first | omega | simp (decide := true) only [oncfb0]) only [oncfb6, ↓brun_b, envOf, reduceIte, Nat.reduceEqDiff, Nat.reduceAdd, Nat.reduceSub, Nat.reduceMul, Nat.reduceBEq, Nat.reduceLeDiff, Nat.reduceLT, Int.reduceToNat, rho, hG, g1, g2, g3, g5, hwc]
      (repeat' refine And.intro ?_ ?_)
      all_goals
        refine OpSem.callw [4, 5, 6] cal.f106 (hh) rfl rfl (by simp -dsimp (decide := true) (maxSteps := 1000000) (disch := first | omega | simp (decide := true) only [oncfb0]) only [oncfb4, ↓brun_b, envOf, reduceIte, Nat.reduceEqDiff, Nat.reduceAdd, Nat.reduceSub, Nat.reduceMul, Nat.reduceBEq, Nat.reduceLeDiff, Nat.reduceLT, Int.reduceToNat, rho, frz1, ↓reduceIte]) rfl (by simp -dsimp (decide := true) (maxSteps := 1000000) (disch := first | omega | simp (decide := true) only [oncfb0]) only [oncfb4, ↓brun_b, envOf, reduceIte, Nat.reduceEqDiff, Nat.reduceAdd, Nat.reduceSub, Nat.reduceMul, Nat.reduceBEq, Nat.reduceLeDiff, Nat.reduceLT, Int.reduceToNat, rho, frz1, ↓reduceIte]) (by simp -dsimp (decide := true) (maxSteps := 1000000) (disch := first | omega | simp (decide := true) only [oncfb0]) only [oncfc2, ↓brun_b, envOf, reduceIte, Nat.reduceEqDiff, Nat.reduceAdd, Nat.reduceSub, Nat.reduceMul, Nat.reduceBEq, Nat.reduceLeDiff, Nat.reduceLT, Int.reduceToNat]) ?_
        simp -dsimp (decide := true) (maxSteps := 1000000) (disch := first | omega | simp (decide := true) only [oncfb0]) only [oncfb1, ↓brun_b, envOf, reduceIte, Nat.reduceEqDiff, Nat.reduceAdd, Nat.reduceSub, Nat.reduceMul, Nat.reduceBEq, Nat.reduceLeDiff, Nat.reduceLT, Int.reduceToNat, rho, hG]
        (repeat' refine And.intro ?_ ?_)
        all_goals
          refine hf _ (Sem.go (k := 1000) ?_)
          simp (decide := true) only [back_mk, backL_in, backL_row, backL_none, backL_nil, Nat.zero_add, Nat.reduceAdd]
          simp only [lapp_nil]
          simp -dsimp (decide := true) (maxSteps := 1000000) (disch := first | omega | simp (decide := true) only [oncfb0]) only [oncfb1, ↓brun_b, envOf, reduceIte, Nat.reduceEqDiff, Nat.reduceAdd, Nat.reduceSub, Nat.reduceMul, Nat.reduceBEq, Nat.reduceLeDiff, Nat.reduceLT, Int.reduceToNat, rho]
          first
          | (refine ⟨[0, 1, 2, 3, 4, 5, 6, 7, 8, 9, 10, 11, 12, 14, 15, 17, 18, 19], ?_⟩
             (refine Wk.ofC ?_; simp -dsimp (decide := true) (maxSteps := 1000000) (disch := first | omega | simp (decide := true) only [oncfb0]) only [oncfb4, ↓brun_b, envOf, reduceIte, Nat.reduceEqDiff, Nat.reduceAdd, Nat.reduceSub, Nat.reduceMul, Nat.reduceBEq, Nat.reduceLeDiff, Nat.reduceLT, Int.reduceToNat, rho, bsl, frz1, ↓reduceIte])
             done)
          | (refine ⟨[0, 1, 2, 3, 4, 5, 6, 7, 8, 9, 10, 11, 12, 14, 15, 18, 19, 17], ?_⟩
             (refine Wk.ofC ?_; simp -dsimp (decide := true) (maxSteps := 1000000) (disch := first | omega | simp (decide := true) only [oncfb0]) only [oncfb4, ↓brun_b, envOf, reduceIte, Nat.reduceEqDiff, Nat.reduceAdd, Nat.reduceSub, Nat.reduceMul, Nat.reduceBEq, Nat.reduceLeDiff, Nat.reduceLT, Int.reduceToNat, rho, bsl, frz1, ↓reduceIte])
             done)
    · refine Sem.go (k := 1000) ?_
      simp -dsimp (decide := true) (maxSteps := 1000000) (disch := first | omega | simp (decide := true) only [oncfb0]) only [oncfb1, ↓brun_b, envOf, reduceIte, Nat.reduceEqDiff, Nat.reduceAdd, Nat.reduceSub, Nat.reduceMul, Nat.reduceBEq, Nat.reduceLeDiff, Nat.reduceLT, Int.reduceToNat, rho]
      refine SemOps.callw [4, 15, 16] cal.f109 (hp2) rfl rfl rfl (by simp -dsimp (decide := true) (maxSteps := 1000000) (disch := first | omega | simp (decide := true) only [oncfb0]) only [oncfb4, ↓brun_b, envOf, reduceIte, Nat.reduceEqDiff, Nat.reduceAdd, Nat.reduceSub, Nat.reduceMul, Nat.reduceBEq, Nat.reduceLeDiff, Nat.reduceLT, Int.reduceToNat, rho, frz1, ↓reduceIte]) rfl (by simp -dsimp (decide := true) (maxSteps := 1000000) (disch := first | omega | simp (decide := true) only [oncfb0]) only [oncfb4, ↓brun_b, envOf, reduceIte, Nat.reduceEqDiff, Nat.reduceAdd, Nat.reduceSub, Nat.reduceMul, Nat.reduceBEq, Nat.reduceLeDiff, Nat.reduceLT, Int.reduceToNat, rho, frz1, ↓reduceIte]) (by simp -dsimp (decide := true) (maxSteps := 1000000) (disch := first | omega | simp (decide := true) only [oncfb0]) only [oncfc2, ↓brun_b, envOf, reduceIte, Nat.reduceEqDiff, Nat.reduceAdd, Nat.reduceSub, Nat.reduceMul, Nat.reduceBEq, Nat.reduceLeDiff, Nat.reduceLT, Int.reduceToNat]) ?_
      refine SemOps.go (k := 1000) ?_
      by_cases hm : m' = m
      · rw [decide_eq_true hm] at hne
        rw [if_pos hm] at hc'
        subst hc'
        cases ot with
        | none =>
          simp only [addG] at hg'
          subst hg'
          simp -dsimp (decide := true) (maxSteps := 1000000) (disch := first | omega | simp (decide := true) only [oncfb0]) only [oncfb1, ↓brun_b, envOf, reduceIte, Nat.reduceEqDiff, Nat.reduceAdd, Nat.reduceSub, Nat.reduceMul, Nat.reduceBEq, Nat.reduceLeDiff, Nat.reduceLT, Int.reduceToNat, rho, sBin_agg .eql 23 _ _ _ (I16.cellsEq _ _), sBin_agg .eql 135 _ _ _ (ceq135 _ _ _ _), sBin_agg .neq 23 _ _ _ (I16.cellsEq _ _), sBin_agg .neq 135 _ _ _ (ceq135 _ _ _ _), hne, Option.getD_none, Option.isSome_none]
          refine And.intro (flat135 _ _ _ _) ?_
          refine SemOps.weakenM (s' := ⟨121, 13, [(116, .ptr 0 0 0), (117, .v (.int .i64 1)), (119, .rsl 95 (frows (out.map Ms.frm)))], [some (.row ⟨10, 1, true, 130, fun _ => [.ptr 1 0 0, .ptr 4 0 0, .slc 7 0 (T.w false).length, .slc 13 0 (restOf w0 i).length, .v (.int .i64 ((T.c false) : Int)), .v (.int .i64 ((T.c true) : Int)), .slc 9 0 (T.s false).length, .slc 10 0 (T.s true).length, .slc 11 0 (T.g false).length, .slc 16 0 (T.g true).length]⟩),
                some (.row ⟨39, 1, false, 204, fun _ => EC.c ⟨i0, .v (.bool (T.e false).up), .v (.bool (T.e false).op), .v (.int .i64 (nI (T.e false).m)), .v (.int .i64 ((T.e false).m : Int)), .v (.int .i64 (nI (T.e false).p)), .v (.int .i64 ((T.e false).p : Int)), (T.e false).pid, .ptr 2 0 0⟩⟩),
                some (.row ⟨3, 1, false, 197, fun _ => [.v (.int .i64 ((T.e false).base : Int)), .slc 3 0 (T.e false).ts.length, .v (.int .i64 ((T.e false).got : Int))]⟩),
                some (.row ⟨1, (T.e false).ts.length, false, 35, trow (T.e false).ts⟩),
                some (.row ⟨39, 1, true, 204, fun _ => EC.c ⟨i1, .v (.bool (⟨up', op', m', p', pid', base', got', ts'⟩ : En).up), .v (.bool (⟨up', op', m', p', pid', base', got', ts'⟩ : En).op), .v (.int .i64 (nI (⟨up', op', m', p', pid', base', got', ts'⟩ : En).m)), .v (.int .i64 ((⟨up', op', m', p', pid', base', got', ts'⟩ : En).m : Int)), .v (.int .i64 (nI (⟨up', op', m', p', pid', base', got', ts'⟩ : En).p)), .v (.int .i64 ((⟨up', op', m', p', pid', base', got', ts'⟩ : En).p : Int)), (⟨up', op', m', p', pid', base', got', ts'⟩ : En).pid, .ptr 14 0 0⟩⟩),
                none,
                none,
                some (.row ⟨95, (T.w false).length, true, 151, wrow (T.w false)⟩),
                none,
                some (.row ⟨5, (T.s false).length, false, 137, srow (T.s false)⟩),
                some (.row ⟨5, (T.s true).length, false, 137, srow (T.s true)⟩),
                some (.row ⟨5, (T.g false).length, false, 137, srow (T.g false)⟩),
                none,
                some (.row ⟨95, (restOf w0 i).length, true, 151, wrow (restOf w0 i)⟩),
                some (.row ⟨3, 1, true, 197, fun _ => [.v (.int .i64 ((⟨up', op', m', p', pid', base', got', ts'⟩ : En).base : Int)), .slc 15 0 (⟨up', op', m', p', pid', base', got', ts'⟩ : En).ts.length, .v (.int .i64 ((⟨up', op', m', p', pid', base', got', ts'⟩ : En).got : Int))]⟩),
                some (.row ⟨1, (⟨up', op', m', p', pid', base', got', ts'⟩ : En).ts.length, true, 35, trow (⟨up', op', m', p', pid', base', got', ts'⟩ : En).ts⟩),
                some (.row ⟨5, (T.g true).length, true, 137, srow (T.g true)⟩)]⟩) [0, 1, 2, 3, 4, 5, 6, 7, 8, 9, 10, 11, 12, 13, 15, 16, 12] ⟨rfl, rfl, rfl, rfl, rfl, rfl, ?_, ?_⟩ ?_
          · simp -dsimp (decide := true) (maxSteps := 1000000) (disch := first | omega | simp (decide := true) only [oncfb0]) only [oncfb4, ↓brun_b, envOf, reduceIte, Nat.reduceEqDiff, Nat.reduceAdd, Nat.reduceSub, Nat.reduceMul, Nat.reduceBEq, Nat.reduceLeDiff, Nat.reduceLT, Int.reduceToNat, rho, frz1, ↓reduceIte]
          · simp -dsimp (decide := true) (maxSteps := 1000000) (disch := first | omega | simp (decide := true) only [oncfb0]) only [oncfb4, ↓brun_b, envOf, reduceIte, Nat.reduceEqDiff, Nat.reduceAdd, Nat.reduceSub, Nat.reduceMul, Nat.reduceBEq, Nat.reduceLeDiff, Nat.reduceLT, Int.reduceToNat, rho, frz1, ↓reduceIte]
          refine SemOps.callw [0, 1, 2, 3, 4, 14, 15, 7, 13, 9, 10, 11, 16] cal.f134 (hs) rfl rfl rfl (by simp -dsimp (decide := true) (maxSteps := 1000000) (disch := first | omega | simp (decide := true) only [oncfb0]) only [oncfb4, ↓brun_b, envOf, reduceIte, Nat.reduceEqDiff, Nat.reduceAdd, Nat.reduceSub, Nat.reduceMul, Nat.reduceBEq, Nat.reduceLeDiff, Nat.reduceLT, Int.reduceToNat, rho, frz1, ↓reduceIte]) rfl (by simp -dsimp (decide := true) (maxSteps := 1000000) (disch := first | omega | simp (decide := true) only [oncfb0]) only [oncfb4, ↓brun_b, envOf, reduceIte, Nat.reduceEqDiff, Nat.reduceAdd, Nat.reduceSub, Nat.reduceMul, Nat.reduceBEq, Nat.reduceLeDiff, Nat.reduceLT, Int.reduceToNat, rho, frz1, ↓reduceIte]) (by simp -dsimp (decide := true) (maxSteps := 1000000) (disch := first | omega | simp (decide := true) only [oncfb0]) only [oncfc2, ↓brun_b, envOf, reduceIte, Nat.reduceEqDiff, Nat.reduceAdd, Nat.reduceSub, Nat.reduceMul, Nat.reduceBEq, Nat.reduceLeDiff, Nat.reduceLT, Int.reduceToNat]) ?_
          refine SemOps.go (k := 1000) ?_
          simp -dsimp (decide := true) (maxSteps := 1000000) (disch := first | omega | simp (decide := true) only [oncfb0]) only [oncfb1, ↓brun_b, envOf, reduceIte, Nat.reduceEqDiff, Nat.reduceAdd, Nat.reduceSub, Nat.reduceMul, Nat.reduceBEq, Nat.reduceLeDiff, Nat.reduceLT, Int.reduceToNat, rho]
          refine SQ.fin (SQ.runL (rs := []) [0, 1, 2, 3, 4, 5, 6, 7, 8, 9, 10, 11, 12, 14, 15, 13, 17, 16] _ _ rfl (And.intro rfl rfl) (by decide) rfl rfl ?_ ?_)
          · simp -dsimp (decide := true) (maxSteps := 1000000) (disch := first | omega | simp (decide := true) only [oncfb0]) only [oncfb4, ↓brun_b, envOf, reduceIte, Nat.reduceEqDiff, Nat.reduceAdd, Nat.reduceSub, Nat.reduceMul, Nat.reduceBEq, Nat.reduceLeDiff, Nat.reduceLT, Int.reduceToNat, rho, frz1, ↓reduceIte]
          · simp -dsimp (decide := true) (maxSteps := 1000000) (disch := first | omega | simp (decide := true) only [oncfb0]) only [oncfb4, ↓brun_b, envOf, reduceIte, Nat.reduceEqDiff, Nat.reduceAdd, Nat.reduceSub, Nat.reduceMul, Nat.reduceBEq, Nat.reduceLeDiff, Nat.reduceLT, Int.reduceToNat, rho, frz1, ↓reduceIte]
            exact Ent.eq rfl
        | some tx =>
          simp only [addG] at hg'
          simp -dsimp (decide := true) (maxSteps := 1000000) (disch := first | omega | simp (decide := true) only [oncfb0]) only [oncfb1, ↓brun_b, envOf, reduceIte, Nat.reduceEqDiff, Nat.reduceAdd, Nat.reduceSub, Nat.reduceMul, Nat.reduceBEq, Nat.reduceLeDiff, Nat.reduceLT, Int.reduceToNat, rho, sBin_agg .eql 23 _ _ _ (I16.cellsEq _ _), sBin_agg .eql 135 _ _ _ (ceq135 _ _ _ _), sBin_agg .neq 23 _ _ _ (I16.cellsEq _ _), sBin_agg .neq 135 _ _ _ (ceq135 _ _ _ _), hne, Option.getD_some, Option.isSome_some]
          refine And.intro (flat135 _ _ _ _) ?_
          refine Sem.draw' (by kernel_rfl) (.one 0 (.one 1 (.one 2 (.one 3 (.one 4 (.one 5 (.one 6 (.one 8 (.one 9 (.one 10 (.one 11 (.one 12 (.one 13 (.one 16 (.one 17 (.alt 7 (.alt 14 (.alt 15 (.one 18 (.alt 19 .done .non)) .non) .non) (.alt 14 (.alt 7 (.alt 15 (.one 18 (.alt 19 .done .non)) .non) .non) .non))))))))))))))))) [0, 12] (by kernel_rfl) (fun G ff hG hf => ?_)
          simp (decide := true) only [oncfb2, Nat.reduceAdd] at hG ⊢
          simp -dsimp (decide := true) (maxSteps := 1000000) (disch := first | omega | simp (decide := true) only [oncfb0]) only [oncfb7, ↓brun_b, envOf, reduceIte, Nat.reduceEqDiff, Nat.reduceAdd, Nat.reduceSub, Nat.reduceMul, Nat.reduceBEq, Nat.reduceLeDiff, Nat.reduceLT, Int.reduceToNat, rho, hG, sapp1_sl el137]
          (repeat' refine And.intro ?_ ?_)
          all_goals try omega
          all_goals
            refine hf _ (Sem.go (k := 1000) ?_)
            simp (decide := true) only [back_mk, backL_in, backL_row, backL_none, backL_nil, Nat.zero_add, Nat.reduceAdd]
            simp -dsimp (decide := true) (maxSteps := 1000000) (disch := first | omega | simp (decide := true) only [oncfb0]) only [oncfb1, ↓brun_b, envOf, reduceIte, Nat.reduceEqDiff, Nat.reduceAdd, Nat.reduceSub, Nat.reduceMul, Nat.reduceBEq, Nat.reduceLeDiff, Nat.reduceLT, Int.reduceToNat, rho]
            have eg : g'.length = ((T.g true)).length + 1 := by rw [hg']; simp
            refine SemOps.weakenM (s' := ⟨121, 13, [(116, .ptr 0 0 0), (117, .v (.int .i64 1)), (119, .rsl 95 (frows (out.map Ms.frm)))], [some (.row ⟨10, 1, true, 130, fun _ => [.ptr 1 0 0, .ptr 4 0 0, .slc 7 0 (T.w false).length, .slc 13 0 (restOf w0 i).length, .v (.int .i64 ((T.c false) : Int)), .v (.int .i64 ((T.c true) : Int)), .slc 9 0 (T.s false).length, .slc 10 0 (T.s true).length, .slc 11 0 (T.g false).length, .slc 16 0 g'.length]⟩),
                  some (.row ⟨39, 1, false, 204, fun _ => EC.c ⟨i0, .v (.bool (T.e false).up), .v (.bool (T.e false).op), .v (.int .i64 (nI (T.e false).m)), .v (.int .i64 ((T.e false).m : Int)), .v (.int .i64 (nI (T.e false).p)), .v (.int .i64 ((T.e false).p : Int)), (T.e false).pid, .ptr 2 0 0⟩⟩),
                  some (.row ⟨3, 1, false, 197, fun _ => [.v (.int .i64 ((T.e false).base : Int)), .slc 3 0 (T.e false).ts.length, .v (.int .i64 ((T.e false).got : Int))]⟩),
                  some (.row ⟨1, (T.e false).ts.length, false, 35, trow (T.e false).ts⟩),
                  some (.row ⟨39, 1, true, 204, fun _ => EC.c ⟨i1, .v (.bool (⟨up', op', m', p', pid', base', got', ts'⟩ : En).up), .v (.bool (⟨up', op', m', p', pid', base', got', ts'⟩ : En).op), .v (.int .i64 (nI (⟨up', op', m', p', pid', base', got', ts'⟩ : En).m)), .v (.int .i64 ((⟨up', op', m', p', pid', base', got', ts'⟩ : En).m : Int)), .v (.int .i64 (nI (⟨up', op', m', p', pid', base', got', ts'⟩ : En).p)), .v (.int .i64 ((⟨up', op', m', p', pid', base', got', ts'⟩ : En).p : Int)), (⟨up', op', m', p', pid', base', got', ts'⟩ : En).pid, .ptr 14 0 0⟩⟩),
                  none,
                  none,
                  some (.row ⟨95, (T.w false).length, true, 151, wrow (T.w false)⟩),
                  none,
                  some (.row ⟨5, (T.s false).length, false, 137, srow (T.s false)⟩),
                  some (.row ⟨5, (T.s true).length, false, 137, srow (T.s true)⟩),
                  some (.row ⟨5, (T.g false).length, false, 137, srow (T.g false)⟩),
                  none,
                  some (.row ⟨95, (restOf w0 i).length, true, 151, wrow (restOf w0 i)⟩),
                  some (.row ⟨3, 1, true, 197, fun _ => [.v (.int .i64 ((⟨up', op', m', p', pid', base', got', ts'⟩ : En).base : Int)), .slc 15 0 (⟨up', op', m', p', pid', base', got', ts'⟩ : En).ts.length, .v (.int .i64 ((⟨up', op', m', p', pid', base', got', ts'⟩ : En).got : Int))]⟩),
                  some (.row ⟨1, (⟨up', op', m', p', pid', base', got', ts'⟩ : En).ts.length, true, 35, trow (⟨up', op', m', p', pid', base', got', ts'⟩ : En).ts⟩),
                  some (.row ⟨5, g'.length, true, 137, srow g'⟩)]⟩) [0, 1, 2, 3, 4, 5, 6, 7, 8, 9, 10, 11, 12, 13, 15, 16, 21] ⟨rfl, rfl, rfl, rfl, rfl, rfl, ?_, ?_⟩ ?_
            · simp -dsimp (decide := true) (maxSteps := 1000000) (disch := first | omega | simp (decide := true) only [oncfb0]) only [oncfb4, ↓brun_b, envOf, reduceIte, Nat.reduceEqDiff, Nat.reduceAdd, Nat.reduceSub, Nat.reduceMul, Nat.reduceBEq, Nat.reduceLeDiff, Nat.reduceLT, Int.reduceToNat, rho, eg, frz1, ↓reduceIte]
            · simp -dsimp (decide := true) (maxSteps := 1000000) (disch := first | omega | simp (decide := true) only [oncfb0]) only [oncfb4, ↓brun_b, envOf, reduceIte, Nat.reduceEqDiff, Nat.reduceAdd, Nat.reduceSub, Nat.reduceMul, Nat.reduceBEq, Nat.reduceLeDiff, Nat.reduceLT, Int.reduceToNat, rho, eg, frz1, ↓reduceIte]
              rw [hg']
              exact fun e he => app_srow _ ⟨m', p', tx⟩ e he
            refine SemOps.callw [0, 1, 2, 3, 4, 14, 15, 7, 13, 9, 10, 11, 16] cal.f134 (hs) rfl rfl rfl (by simp -dsimp (decide := true) (maxSteps := 1000000) (disch := first | omega | simp (decide := true) only [oncfb0]) only [oncfb4, ↓brun_b, envOf, reduceIte, Nat.reduceEqDiff, Nat.reduceAdd, Nat.reduceSub, Nat.reduceMul, Nat.reduceBEq, Nat.reduceLeDiff, Nat.reduceLT, Int.reduceToNat, rho, eg, frz1, ↓reduceIte]) rfl (by simp -dsimp (decide := true) (maxSteps := 1000000) (disch := first | omega | simp (decide := true) only [oncfb0]) only [oncfb4, ↓brun_b, envOf, reduceIte, Nat.reduceEqDiff, Nat.reduceAdd, Nat.reduceSub, Nat.reduceMul, Nat.reduceBEq, Nat.reduceLeDiff, Nat.reduceLT, Int.reduceToNat, rho, eg, frz1, ↓reduceIte]) (by simp -dsimp (decide := true) (maxSteps := 1000000) (disch := first | omega | simp (decide := true) only [oncfb0]) only [oncfc2, ↓brun_b, envOf, reduceIte, Nat.reduceEqDiff, Nat.reduceAdd, Nat.reduceSub, Nat.reduceMul, Nat.reduceBEq, Nat.reduceLeDiff, Nat.reduceLT, Int.reduceToNat]) ?_
            refine SemOps.go (k := 1000) ?_
            simp -dsimp (decide := true) (maxSteps := 1000000) (disch := first | omega | simp (decide := true) only [oncfb0]) only [oncfb1, ↓brun_b, envOf, reduceIte, Nat.reduceEqDiff, Nat.reduceAdd, Nat.reduceSub, Nat.reduceMul, Nat.reduceBEq, Nat.reduceLeDiff, Nat.reduceLT, Int.reduceToNat, rho]
            refine SQ.fin (SQ.runL (rs := []) [0, 1, 2, 3, 4, 5, 6, 7, 8, 9, 10, 11, 12, 14, 15, 13, 17, 16] _ _ rfl (And.intro rfl rfl) (by decide) rfl rfl ?_ ?_)
            · simp -dsimp (decide := true) (maxSteps := 1000000) (disch := first | omega | simp (decide := true) only [oncfb0]) only [oncfb4, ↓brun_b, envOf, reduceIte, Nat.reduceEqDiff, Nat.reduceAdd, Nat.reduceSub, Nat.reduceMul, Nat.reduceBEq, Nat.reduceLeDiff, Nat.reduceLT, Int.reduceToNat, rho, frz1, ↓reduceIte]
            · simp -dsimp (decide := true) (maxSteps := 1000000) (disch := first | omega | simp (decide := true) only [oncfb0]) only [oncfb4, ↓brun_b, envOf, reduceIte, Nat.reduceEqDiff, Nat.reduceAdd, Nat.reduceSub, Nat.reduceMul, Nat.reduceBEq, Nat.reduceLeDiff, Nat.reduceLT, Int.reduceToNat, rho, frz1, ↓reduceIte]
              exact Ent.eq rfl
      · rw [decide_eq_false hm] at hne
        rw [if_neg hm] at hc'
        subst hc'
        cases ot with
        | none =>
          simp only [addG] at hg'
          subst hg'
          simp -dsimp (decide := true) (maxSteps := 1000000) (disch := first | omega | simp (decide := true) only [oncfb0]) only [oncfb1, ↓brun_b, envOf, reduceIte, Nat.reduceEqDiff, Nat.reduceAdd, Nat.reduceSub, Nat.reduceMul, Nat.reduceBEq, Nat.reduceLeDiff, Nat.reduceLT, Int.reduceToNat, rho, sBin_agg .eql 23 _ _ _ (I16.cellsEq _ _), sBin_agg .eql 135 _ _ _ (ceq135 _ _ _ _), sBin_agg .neq 23 _ _ _ (I16.cellsEq _ _), sBin_agg .neq 135 _ _ _ (ceq135 _ _ _ _), hne, Option.getD_none, Option.isSome_none]
          refine And.intro (flat135 _ _ _ _) ?_
          refine Sem.draw' (by kernel_rfl) (.one 0 (.one 1 (.one 2 (.one 3 (.one 4 (.one 7 (.one 8 (.alt 5 (.one 6 (.one 9 (.alt 10 .done .non))) .non)))))))) [0] (by kernel_rfl) (fun G ff hG hf => ?_)
          simp (decide := true) only [oncfb2, Nat.reduceAdd] at hG ⊢
          simp -dsimp (decide := true) (maxSteps := 1000000) (disch := first | omega | simp (decide := true) only [oncfb0]) only [oncfb1, ↓brun_b, envOf, reduceIte, Nat.reduceEqDiff, Nat.reduceAdd, Nat.reduceSub, Nat.reduceMul, Nat.reduceBEq, Nat.reduceLeDiff, Nat.reduceLT, Int.reduceToNat, rho, hG, hwc]
          refine hf _ (Sem.go (k := 1000) ?_)
          simp (decide := true) only [back_mk, backL_in, backL_row, backL_none, backL_nil, Nat.zero_add, Nat.reduceAdd]
          simp -dsimp (decide := true) (maxSteps := 1000000) (disch := first | omega | simp (decide := true) only [oncfb0]) only [oncfb1, ↓brun_b, envOf, reduceIte, Nat.reduceEqDiff, Nat.reduceAdd, Nat.reduceSub, Nat.reduceMul, Nat.reduceBEq, Nat.reduceLeDiff, Nat.reduceLT, Int.reduceToNat, rho]
          refine SemOps.weakenM (s' := ⟨121, 13, [(116, .ptr 0 0 0), (117, .v (.int .i64 1)), (119, .rsl 95 (frows (out.map Ms.frm)))], [some (.row ⟨10, 1, true, 130, fun _ => [.ptr 1 0 0, .ptr 4 0 0, .slc 7 0 (T.w false).length, .slc 13 0 (restOf w0 i).length, .v (.int .i64 ((T.c false) : Int)), .v (.int .i64 (((T.c true) + 1 : Nat) : Int)), .slc 9 0 (T.s false).length, .slc 10 0 (T.s true).length, .slc 11 0 (T.g false).length, .slc 16 0 (T.g true).length]⟩),
                some (.row ⟨39, 1, false, 204, fun _ => EC.c ⟨i0, .v (.bool (T.e false).up), .v (.bool (T.e false).op), .v (.int .i64 (nI (T.e false).m)), .v (.int .i64 ((T.e false).m : Int)), .v (.int .i64 (nI (T.e false).p)), .v (.int .i64 ((T.e false).p : Int)), (T.e false).pid, .ptr 2 0 0⟩⟩),
                some (.row ⟨3, 1, false, 197, fun _ => [.v (.int .i64 ((T.e false).base : Int)), .slc 3 0 (T.e false).ts.length, .v (.int .i64 ((T.e false).got : Int))]⟩),
                some (.row ⟨1, (T.e false).ts.length, false, 35, trow (T.e false).ts⟩),
                some (.row ⟨39, 1, true, 204, fun _ => EC.c ⟨i1, .v (.bool (⟨up', op', m', p', pid', base', got', ts'⟩ : En).up), .v (.bool (⟨up', op', m', p', pid', base', got', ts'⟩ : En).op), .v (.int .i64 (nI (⟨up', op', m', p', pid', base', got', ts'⟩ : En).m)), .v (.int .i64 ((⟨up', op', m', p', pid', base', got', ts'⟩ : En).m : Int)), .v (.int .i64 (nI (⟨up', op', m', p', pid', base', got', ts'⟩ : En).p)), .v (.int .i64 ((⟨up', op', m', p', pid', base', got', ts'⟩ : En).p : Int)), (⟨up', op', m', p', pid', base', got', ts'⟩ : En).pid, .ptr 14 0 0⟩⟩),
                none,
                none,
                some (.row ⟨95, (T.w false).length, true, 151, wrow (T.w false)⟩),
                none,
                some (.row ⟨5, (T.s false).length, false, 137, srow (T.s false)⟩),
                some (.row ⟨5, (T.s true).length, false, 137, srow (T.s true)⟩),
                some (.row ⟨5, (T.g false).length, false, 137, srow (T.g false)⟩),
                none,
                some (.row ⟨95, (restOf w0 i).length, true, 151, wrow (restOf w0 i)⟩),
                some (.row ⟨3, 1, true, 197, fun _ => [.v (.int .i64 ((⟨up', op', m', p', pid', base', got', ts'⟩ : En).base : Int)), .slc 15 0 (⟨up', op', m', p', pid', base', got', ts'⟩ : En).ts.length, .v (.int .i64 ((⟨up', op', m', p', pid', base', got', ts'⟩ : En).got : Int))]⟩),
                some (.row ⟨1, (⟨up', op', m', p', pid', base', got', ts'⟩ : En).ts.length, true, 35, trow (⟨up', op', m', p', pid', base', got', ts'⟩ : En).ts⟩),
                some (.row ⟨5, (T.g true).length, true, 137, srow (T.g true)⟩)]⟩) [0, 1, 2, 3, 4, 5, 6, 7, 8, 9, 10, 11, 12, 13, 15, 16, 12] ⟨rfl, rfl, rfl, rfl, rfl, rfl, ?_, ?_⟩ ?_
          · simp -dsimp (decide := true) (maxSteps := 1000000) (disch := first | omega | simp (decide := true) only [oncfb0]) only [oncfb4, ↓brun_b, envOf, reduceIte, Nat.reduceEqDiff, Nat.reduceAdd, Nat.reduceSub, Nat.reduceMul, Nat.reduceBEq, Nat.reduceLeDiff, Nat.reduceLT, Int.reduceToNat, rho, frz1, ↓reduceIte]
          · simp -dsimp (decide := true) (maxSteps := 1000000) (disch := first | omega | simp (decide := true) only [oncfb0]) only [oncfb4, ↓brun_b, envOf, reduceIte, Nat.reduceEqDiff, Nat.reduceAdd, Nat.reduceSub, Nat.reduceMul, Nat.reduceBEq, Nat.reduceLeDiff, Nat.reduceLT, Int.reduceToNat, rho, frz1, ↓reduceIte]
          refine SemOps.callw [0, 1, 2, 3, 4, 14, 15, 7, 13, 9, 10, 11, 16] cal.f134 (hs) rfl rfl rfl (by simp -dsimp (decide := true) (maxSteps := 1000000) (disch := first | omega | simp (decide := true) only [oncfb0]) only [oncfb4, ↓brun_b, envOf, reduceIte, Nat.reduceEqDiff, Nat.reduceAdd, Nat.reduceSub, Nat.reduceMul, Nat.reduceBEq, Nat.reduceLeDiff, Nat.reduceLT, Int.reduceToNat, rho, frz1, ↓reduceIte]) rfl (by simp -dsimp (decide := true) (maxSteps := 1000000) (disch := first | omega | simp (decide := true) only [oncfb0]) only [oncfb4, ↓brun_b, envOf, reduceIte, Nat.reduceEqDiff, Nat.reduceAdd, Nat.reduceSub, Nat.reduceMul, Nat.reduceBEq, Nat.reduceLeDiff, Nat.reduceLT, Int.reduceToNat, rho, frz1, ↓reduceIte]) (by simp -dsimp (decide := true) (maxSteps := 1000000) (disch := first | omega | simp (decide := true) only [oncfb0]) only [oncfc2, ↓brun_b, envOf, reduceIte, Nat.reduceEqDiff, Nat.reduceAdd, Nat.reduceSub, Nat.reduceMul, Nat.reduceBEq, Nat.reduceLeDiff, Nat.reduceLT, Int.reduceToNat]) ?_
          refine SemOps.go (k := 1000) ?_
          simp -dsimp (decide := true) (maxSteps := 1000000) (disch := first | omega | simp (decide := true) only [oncfb0]) only [oncfb1, ↓brun_b, envOf, reduceIte, Nat.reduceEqDiff, Nat.reduceAdd, Nat.reduceSub, Nat.reduceMul, Nat.reduceBEq, Nat.reduceLeDiff, Nat.reduceLT, Int.reduceToNat, rho]
          refine SQ.fin (SQ.runL (rs := []) [0, 1, 2, 3, 4, 5, 6, 7, 8, 9, 10, 11, 12, 14, 15, 13, 17, 16] _ _ rfl (And.intro rfl rfl) (by decide) rfl rfl ?_ ?_)
          · simp -dsimp (decide := true) (maxSteps := 1000000) (disch := first | omega | simp (decide := true) only [oncfb0]) only [oncfb4, ↓brun_b, envOf, reduceIte, Nat.reduceEqDiff, Nat.reduceAdd, Nat.reduceSub, Nat.reduceMul, Nat.reduceBEq, Nat.reduceLeDiff, Nat.reduceLT, Int.reduceToNat, rho, frz1, ↓reduceIte]
          · simp -dsimp (decide := true) (maxSteps := 1000000) (disch := first | omega | simp (decide := true) only [oncfb0]) only [oncfb4, ↓brun_b, envOf, reduceIte, Nat.reduceEqDiff, Nat.reduceAdd, Nat.reduceSub, Nat.reduceMul, Nat.reduceBEq, Nat.reduceLeDiff, Nat.reduceLT, Int.reduceToNat, rho, frz1, ↓reduceIte]
            exact Ent.eq rfl
        | some tx =>
          simp only [addG] at hg'
          simp -dsimp (decide := true) (maxSteps := 1000000) (disch := first | omega | simp (decide := true) only [oncfb0]) only [oncfb1, ↓brun_b, envOf, reduceIte, Nat.reduceEqDiff, Nat.reduceAdd, Nat.reduceSub, Nat.reduceMul, Nat.reduceBEq, Nat.reduceLeDiff, Nat.reduceLT, Int.reduceToNat, rho, sBin_agg .eql 23 _ _ _ (I16.cellsEq _ _), sBin_agg .eql 135 _ _ _ (ceq135 _ _ _ _), sBin_agg .neq 23 _ _ _ (I16.cellsEq _ _), sBin_agg .neq 135 _ _ _ (ceq135 _ _ _ _), hne, Option.getD_some, Option.isSome_some]
          refine And.intro (flat135 _ _ _ _) ?_
          refine Sem.draw' (by kernel_rfl) (.one 0 (.one 1 (.one 2 (.one 3 (.one 4 (.one 7 (.one 8 (.alt 5 (.one 6 (.one 9 (.alt 10 .done .non))) .non)))))))) [0] (by kernel_rfl) (fun G ff hG hf => ?_)
          simp (decide := true) only [oncfb2, Nat.reduceAdd] at hG ⊢
          simp -dsimp (decide := true) (maxSteps := 1000000) (disch := first | omega | simp (decide := true) only [oncfb0]) only [oncfb1, ↓brun_b, envOf, reduceIte, Nat.reduceEqDiff, Nat.reduceAdd, Nat.reduceSub, Nat.reduceMul, Nat.reduceBEq, Nat.reduceLeDiff, Nat.reduceLT, Int.reduceToNat, rho, hG, hwc]
          refine hf _ (Sem.go (k := 1000) ?_)
          simp (decide := true) only [back_mk, backL_in, backL_row, backL_none, backL_nil, Nat.zero_add, Nat.reduceAdd]
          simp -dsimp (decide := true) (maxSteps := 1000000) (disch := first | omega | simp (decide := true) only [oncfb0]) only [oncfb1, ↓brun_b, envOf, reduceIte, Nat.reduceEqDiff, Nat.reduceAdd, Nat.reduceSub, Nat.reduceMul, Nat.reduceBEq, Nat.reduceLeDiff, Nat.reduceLT, Int.reduceToNat, rho]
          refine Sem.draw' (by kernel_rfl) (.one 0 (.one 1 (.one 2 (.one 3 (.one 4 (.one 5 (.one 6 (.one 8 (.one 9 (.one 10 (.one 11 (.one 12 (.one 13 (.one 16 (.one 17 (.alt 7 (.alt 14 (.alt 15 (.one 18 (.alt 19 .done .non)) .non) .non) (.alt 14 (.alt 7 (.alt 15 (.one 18 (.alt 19 .done .non)) .non) .non) .non))))))))))))))))) [0, 12] (by kernel_rfl) (fun G ff hG hf => ?_)
          simp (decide := true) only [oncfb2, Nat.reduceAdd] at hG ⊢
          simp -dsimp (decide := true) (maxSteps := 1000000) (disch := first | omega | simp (decide := true) only [oncfb0]) only [oncfb7, ↓brun_b, envOf, reduceIte, Nat.reduceEqDiff, Nat.reduceAdd, Nat.reduceSub, Nat.reduceMul, Nat.reduceBEq, Nat.reduceLeDiff, Nat.reduceLT, Int.reduceToNat, rho, hG, sapp1_sl el137]
          (repeat' refine And.intro ?_ ?_)
          all_goals try omega
          all_goals
            refine hf _ (Sem.go (k := 1000) ?_)
            simp (decide := true) only [back_mk, backL_in, backL_row, backL_none, backL_nil, Nat.zero_add, Nat.reduceAdd]
            simp -dsimp (decide := true) (maxSteps := 1000000) (disch := first | omega | simp (decide := true) only [oncfb0]) only [oncfb1, ↓brun_b, envOf, reduceIte, Nat.reduceEqDiff, Nat.reduceAdd, Nat.reduceSub, Nat.reduceMul, Nat.reduceBEq, Nat.reduceLeDiff, Nat.reduceLT, Int.reduceToNat, rho]
            have eg : g'.length = ((T.g true)).length + 1 := by rw [hg']; simp
            refine SemOps.weakenM (s' := ⟨121, 13, [(116, .ptr 0 0 0), (117, .v (.int .i64 1)), (119, .rsl 95 (frows (out.map Ms.frm)))], [some (.row ⟨10, 1, true, 130, fun _ => [.ptr 1 0 0, .ptr 4 0 0, .slc 7 0 (T.w false).length, .slc 13 0 (restOf w0 i).length, .v (.int .i64 ((T.c false) : Int)), .v (.int .i64 (((T.c true) + 1 : Nat) : Int)), .slc 9 0 (T.s false).length, .slc 10 0 (T.s true).length, .slc 11 0 (T.g false).length, .slc 16 0 g'.length]⟩),
                  some (.row ⟨39, 1, false, 204, fun _ => EC.c ⟨i0, .v (.bool (T.e false).up), .v (.bool (T.e false).op), .v (.int .i64 (nI (T.e false).m)), .v (.int .i64 ((T.e false).m : Int)), .v (.int .i64 (nI (T.e false).p)), .v (.int .i64 ((T.e false).p : Int)), (T.e false).pid, .ptr 2 0 0⟩⟩),
                  some (.row ⟨3, 1, false, 197, fun _ => [.v (.int .i64 ((T.e false).base : Int)), .slc 3 0 (T.e false).ts.length, .v (.int .i64 ((T.e false).got : Int))]⟩),
                  some (.row ⟨1, (T.e false).ts.length, false, 35, trow (T.e false).ts⟩),
                  some (.row ⟨39, 1, true, 204, fun _ => EC.c ⟨i1, .v (.bool (⟨up', op', m', p', pid', base', got', ts'⟩ : En).up), .v (.bool (⟨up', op', m', p', pid', base', got', ts'⟩ : En).op), .v (.int .i64 (nI (⟨up', op', m', p', pid', base', got', ts'⟩ : En).m)), .v (.int .i64 ((⟨up', op', m', p', pid', base', got', ts'⟩ : En).m : Int)), .v (.int .i64 (nI (⟨up', op', m', p', pid', base', got', ts'⟩ : En).p)), .v (.int .i64 ((⟨up', op', m', p', pid', base', got', ts'⟩ : En).p : Int)), (⟨up', op', m', p', pid', base', got', ts'⟩ : En).pid, .ptr 14 0 0⟩⟩),
                  none,
                  none,
                  some (.row ⟨95, (T.w false).length, true, 151, wrow (T.w false)⟩),
                  none,
                  some (.row ⟨5, (T.s false).length, false, 137, srow (T.s false)⟩),
                  some (.row ⟨5, (T.s true).length, false, 137, srow (T.s true)⟩),
                  some (.row ⟨5, (T.g false).length, false, 137, srow (T.g false)⟩),
                  none,
                  some (.row ⟨95, (restOf w0 i).length, true, 151, wrow (restOf w0 i)⟩),
                  some (.row ⟨3, 1, true, 197, fun _ => [.v (.int .i64 ((⟨up', op', m', p', pid', base', got', ts'⟩ : En).base : Int)), .slc 15 0 (⟨up', op', m', p', pid', base', got', ts'⟩ : En).ts.length, .v (.int .i64 ((⟨up', op', m', p', pid', base', got', ts'⟩ : En).got : Int))]⟩),
                  some (.row ⟨1, (⟨up', op', m', p', pid', base', got', ts'⟩ : En).ts.length, true, 35, trow (⟨up', op', m', p', pid', base', got', ts'⟩ : En).ts⟩),
                  some (.row ⟨5, g'.length, true, 137, srow g'⟩)]⟩) [0, 1, 2, 3, 4, 5, 6, 7, 8, 9, 10, 11, 12, 13, 15, 16, 21] ⟨rfl, rfl, rfl, rfl, rfl, rfl, ?_, ?_⟩ ?_
            · simp -dsimp (decide := true) (maxSteps := 1000000) (disch := first | omega | simp (decide := true) only [oncfb0]) only [oncfb4, ↓brun_b, envOf, reduceIte, Nat.reduceEqDiff, Nat.reduceAdd, Nat.reduceSub, Nat.reduceMul, Nat.reduceBEq, Nat.reduceLeDiff, Nat.reduceLT, Int.reduceToNat, rho, eg, frz1, ↓reduceIte]
            · simp -dsimp (decide := true) (maxSteps := 1000000) (disch := first | omega | simp (decide := true) only [oncfb0]) only [oncfb4, ↓brun_b, envOf, reduceIte, Nat.reduceEqDiff, Nat.reduceAdd, Nat.reduceSub, Nat.reduceMul, Nat.reduceBEq, Nat.reduceLeDiff, Nat.reduceLT, Int.reduceToNat, rho, eg, frz1, ↓reduceIte]
              rw [hg']
              exact fun e he => app_srow _ ⟨m', p', tx⟩ e he
            refine SemOps.callw [0, 1, 2, 3, 4, 14, 15, 7, 13, 9, 10, 11, 16] cal.f134 (hs) rfl rfl rfl (by simp -dsimp (decide := true) (maxSteps := 1000000) (disch := first | omega | simp (decide := true) only [oncfb0]) only [oncfb4, ↓brun_b, envOf, reduceIte, Nat.reduceEqDiff, Nat.reduceAdd, Nat.reduceSub, Nat.reduceMul, Nat.reduceBEq, Nat.reduceLeDiff, Nat.reduceLT, Int.reduceToNat, rho, eg, frz1, ↓reduceIte]) rfl (by simp -dsimp (decide := true) (maxSteps := 1000000) (disch := first | omega | simp (decide := true) only [oncfb0]) only [oncfb4, ↓brun_b, envOf, reduceIte, Nat.reduceEqDiff, Nat.reduceAdd, Nat.reduceSub, Nat.reduceMul, Nat.reduceBEq, Nat.reduceLeDiff, Nat.reduceLT, Int.reduceToNat, rho, eg, frz1, ↓reduceIte]) (by simp -dsimp (decide := true) (maxSteps := 1000000) (disch := first | omega | simp (decide := true) only [oncfb0]) only [oncfc2, ↓brun_b, envOf, reduceIte, Nat.reduceEqDiff, Nat.reduceAdd, Nat.reduceSub, Nat.reduceMul, Nat.reduceBEq, Nat.reduceLeDiff, Nat.reduceLT, Int.reduceToNat]) ?_
            refine SemOps.go (k := 1000) ?_
            simp -dsimp (decide := true) (maxSteps := 1000000) (disch := first | omega | simp (decide := true) only [oncfb0]) only [oncfb1, ↓brun_b, envOf, reduceIte, Nat.reduceEqDiff, Nat.reduceAdd, Nat.reduceSub, Nat.reduceMul, Nat.reduceBEq, Nat.reduceLeDiff, Nat.reduceLT, Int.reduceToNat, rho]
            refine SQ.fin (SQ.runL (rs := []) [0, 1, 2, 3, 4, 5, 6, 7, 8, 9, 10, 11, 12, 14, 15, 13, 17, 16] _ _ rfl (And.intro rfl rfl) (by decide) rfl rfl ?_ ?_)
            · simp -dsimp (decide := true) (maxSteps := 1000000) (disch := first | omega | simp (decide := true) only [oncfb0]) only [oncfb4, ↓brun_b, envOf, reduceIte, Nat.reduceEqDiff, Nat.reduceAdd, Nat.reduceSub, Nat.reduceMul, Nat.reduceBEq, Nat.reduceLeDiff, Nat.reduceLT, Int.reduceToNat, rho, frz1, ↓reduceIte]
            · simp -dsimp (decide := true) (maxSteps := 1000000) (disch := first | omega | simp (decide := true) only [oncfb0]) only [oncfb4, ↓brun_b, envOf, reduceIte, Nat.reduceEqDiff, Nat.reduceAdd, Nat.reduceSub, Nat.reduceMul, Nat.reduceBEq, Nat.reduceLeDiff, Nat.reduceLT, Int.reduceToNat, rho, frz1, ↓reduceIte]
              exact Ent.eq rfl
end Go.Proofs
