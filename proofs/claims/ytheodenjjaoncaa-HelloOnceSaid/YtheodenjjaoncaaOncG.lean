/- Contracts of functions that the laws reach, on abstract values, and what they need: no conditions but those that each theorem states. -/
import Derived.Test.YtheodenjjaoncaaOncF
set_option linter.unusedVariables false
set_option linter.unusedSimpArgs false
set_option linter.defProp false
namespace Go.Proofs
open Go Go.SL
set_option maxRecDepth 100000
def playT (id : I16) (T : Tk) (a : Bool) (kd : Int) (i : Nat) (tx : Tx) : Tk :=
  if kd = 0 then riseT id T a
  else if kd = 1 then { T with e := upd T.e a En.down }
  else if kd = 2 then T.say a (tick id (T.e a))
  else if kd = 3 then sendT T a tx
  else if (T.w a).length = 0 then T
  else if kd = 4 then comeT id T a ((T.w a).getD i (.ak 0 0 0)) (restOf (T.w a) i)
  else if kd = 5 then { T with w := upd T.w a (restOf (T.w a) i) }
  else T.say (!a) [(T.w a).getD i (.ak 0 0 0)]
theorem one124e {fz : Nat → Option SB} {ρ : Nat → Nat} {c : List SV} (f : FC) (h : EntL fz ρ c f.c) : EntL fz ρ c ((f.c.drop (0 * 95)).take 95) := by
  rw [Nat.zero_mul, List.drop_zero, List.take_of_length_le (by rw [FC.c_length]; exact Nat.le_refl _)]
  exact h
theorem frows1_ent2 {fz : Nat → Option SB} {ρ : Nat → Nat} {F : Frm} (f : FC) (h : EntL fz ρ F.fc.c f.c) (i : Nat) (r : List SV) (hr : (frows [F])[i]? = some r) : EntL fz ρ r ((f.c.drop ((0 + i) * 95)).take 95) := by
  match i, hr with
  | 0, hr =>
    have hr : some F.fc.c = some r := hr
    injection hr with hr
    rw [← hr]
    exact one124e f h
theorem hear_len (id : I16) (e : En) (f : Ms) (nx : Nat) : (hear id e f nx).2.2.length ≤ 1 := by
  unfold hear
  split
  · exact Nat.zero_le _
  · cases f with
    | hi m' p' id' =>
      simp only [hearHi]
      split
      · exact Nat.zero_le _
      · simp only
        generalize (if e.p < m' then _ else e : En) = e1
        split <;> exact Nat.le_refl 1
    | da m' p' n t =>
      simp only
      split
      · split <;> exact Nat.le_refl 1
      · exact Nat.zero_le _
    | ak m' p' n =>
      simp only
      split <;> exact Nat.zero_le _
theorem sayL_nil (w : List Ms) : sayL w [] = w := rfl
theorem sayL_one (w : List Ms) (f : Ms) : sayL w [f] = if w.length < 200 then w ++ [f] else w := rfl
theorem comeT_eq (id : I16) (T : Tk) (to : Bool) (f : Ms) (rest : List Ms) : comeT id T to f rest =
    Tk.say ⟨upd T.e to (hear id (T.e to) f (T.c to + 1)).1, upd T.w to rest, upd T.c to (if (hear id (T.e to) f (T.c to + 1)).1.m = (T.e to).m then T.c to else T.c to + 1), T.s,
      upd T.g to (addG (T.g to) (hear id (T.e to) f (T.c to + 1)).1.m (hear id (T.e to) f (T.c to + 1)).1.p (hear id (T.e to) f (T.c to + 1)).2.1)⟩ to (hear id (T.e to) f (T.c to + 1)).2.2 := by
  unfold comeT
  simp only
  rcases hear id (T.e to) f (T.c to + 1) with ⟨e', ot, out⟩
  cases ot <;> rfl
theorem tickL_ent {fz : Nat → Option SB} {ρ : Nat → Nat} (m p base : Nat) (ts : List Tx) (i : Nat) (r : List SV) (hr : (frows (((List.range ts.length).map fun i => Ms.da m p (base + i) (ts.getD i [])).map Ms.frm))[i]? = some r) : EntL fz ρ r (dfam (nI m) (m : Int) (nI p) (p : Int) base ts (0 + i)) := by
  refine daL_ent (nI m) (m : Int) (nI p) (p : Int) base ts i r ?_
  rw [← hr]
  congr 2
  simp only [daL, List.map_map]
  rfl
theorem tickL_len (m p base : Nat) (ts : List Tx) : (frows (((List.range ts.length).map fun i => Ms.da m p (base + i) (ts.getD i [])).map Ms.frm)).length = ts.length := by simp [frows]
def oncgc0 :=
  (And.intro (And.intro (And.intro @EC.c_length @FC.c_length) (And.intro @H1.c_length @I16.c_length)) (And.intro (And.intro @fh_flat @fk_flat) (And.intro @srow_len @trow_len)))
def oncgb0 :=
  (And.intro (And.intro (And.intro (And.intro (And.intro oncgc0 (And.intro @AD.c_length @AD.flat)) (And.intro (And.intro @AD.one @AK.c_length) (And.intro @AK.flat @AK.one))) (And.intro (And.intro (And.intro @CP.c_length @CP.flat) (And.intro @CP.one @DR.c_length)) (And.intro (And.intro @DR.flat @DR.one) (And.intro @EC.flat @EC.one)))) (And.intro (And.intro (And.intro (And.intro @FC.flat_eq @FC.one_eq) (And.intro @Frm.flat @GT.c_length)) (And.intro (And.intro @GT.flat @GT.one) (And.intro @H1.flat @H1.one))) (And.intro (And.intro (And.intro @I16.flat @I16.one) (And.intro @IC.c_length @IC.flat)) (And.intro (And.intro @IC.one @PE.c_length) (And.intro @PE.flat @PE.one))))) (And.intro (And.intro (And.intro (And.intro (And.intro @PK.c_length @PK.flat) (And.intro @PK.one @PT.c_length)) (And.intro (And.intro @PT.flat @PT.one) (And.intro @RE.c_length @RE.flat))) (And.intro (And.intro (And.intro @RE.one @SU.c_length) (And.intro @SU.flat @SU.one)) (And.intro (And.intro @bdset_a @brow_flat) (And.intro @dfam_flat @fd_flat)))) (And.intro (And.intro (And.intro (And.intro @frm_flat @frm_one) (And.intro @frows_flat @idrs_flat)) (And.intro (And.intro @lrows_flat @srow_flat) (And.intro @trow_flat @trows_flat))) (And.intro (And.intro (And.intro @trows_length @wrow_flat) (And.intro @zD.eq_1 @zE.eq_1)) (And.intro (And.intro @zF.eq_1 @zH.eq_1) (And.intro @zK.eq_1 @zR.eq_1))))))
def oncgc1 :=
  (And.intro (And.intro (And.intro (And.intro (And.intro (And.intro @EC.at_op @EC.at_up) (And.intro @EC.at_w @EC.ent)) (And.intro (And.intro @EC.part @EC.part_id) (And.intro @EC.part_mine @EC.part_peer))) (And.intro (And.intro (And.intro @EC.part_pid @EC.renc) (And.intro @EC.set_all @EC.set_mine)) (And.intro (And.intro @EC.set_op @EC.set_peer) (And.intro @EC.set_pid @EC.set_up)))) (And.intro (And.intro (And.intro (And.intro @EC.set_w @FC.part) (And.intro @FC.set_all @H1.part)) (And.intro (And.intro @H1.part_a @H1.part_from) (And.intro @H1.part_to @H1.set_all))) (And.intro (And.intro (And.intro @I16.part @Int.cast_ofNat_Int) (And.intro @List.replicate_succ.{0} @List.replicate_zero.{0})) (And.intro (And.intro @SKren_row @after_mk) (And.intro @al135 (And.intro @al151 @al162)))))) (And.intro (And.intro (And.intro (And.intro (And.intro @al210 @al214) (And.intro @al218 @al23)) (And.intro (And.intro @build135z @build151a) (And.intro @build151h @build151z))) (And.intro (And.intro (And.intro @build162z @build214) (And.intro @build23z @cellAt_succ)) (And.intro (And.intro @cellAt_zero @hw10) (And.intro @hw11 @mergeL_done)))) (And.intro (And.intro (And.intro (And.intro @mergeL_own @mergeL_row) (And.intro @mk210 @mk214)) (And.intro (And.intro @mk218 @renL_cons) (And.intro @renL_flat @renL_nil))) (And.intro (And.intro (And.intro @ren_tup @sop_assert) (And.intro @sp02 @sp05)) (And.intro (And.intro @sp22 @splice_0) (And.intro @splice_c (And.intro @splice_s @trow_cell)))))))
def oncgc2 :=
  (And.intro (And.intro (And.intro (And.intro (And.intro (And.intro @beq_self_eq_true.{0} @brun_a) (And.intro @cond_false.{1} @cond_true.{1})) (And.intro (And.intro @tab.a121 @tab.a124) (And.intro @tab.a127 @tab.a132))) (And.intro (And.intro (And.intro @tab.a135 @tab.a137) (And.intro @tab.a151 @tab.a2)) (And.intro (And.intro @tab.a23 @tab.a3) (And.intro @tab.a35 (And.intro @tab.a4 @tab.a5))))) (And.intro (And.intro (And.intro (And.intro @tab.a9 @tab.f130x0) (And.intro @tab.f130x1 @tab.f130x2)) (And.intro (And.intro @tab.f130x3 @tab.f130x4) (And.intro @tab.f132x0 @tab.f132x1))) (And.intro (And.intro (And.intro @tab.f132x2 @tab.f132x3) (And.intro @tab.f135x0 @tab.f135x1)) (And.intro (And.intro @tab.f137x0 @tab.f137x1) (And.intro @tab.f137x2 (And.intro @tab.f151x0 @tab.f151x13)))))) (And.intro (And.intro (And.intro (And.intro (And.intro @tab.f151x3 @tab.f151x5) (And.intro @tab.f151x6 @tab.f151x7)) (And.intro (And.intro @tab.s121 @tab.s124) (And.intro @tab.s127 @tab.s132))) (And.intro (And.intro (And.intro @tab.s135 @tab.s137) (And.intro @tab.s151 @tab.s2)) (And.intro (And.intro @tab.s23 @tab.s3) (And.intro @tab.s35 (And.intro @tab.s4 @tab.s5))))) (And.intro (And.intro (And.intro (And.intro @tab.s9 @tab.u121) (And.intro @tab.u123 @tab.u124)) (And.intro (And.intro @tab.u125 @tab.u126) (And.intro @tab.u127 (And.intro @tab.u128 @tab.u132)))) (And.intro (And.intro (And.intro @tab.u135 @tab.u2) (And.intro @tab.u23 @tab.u3)) (And.intro (And.intro @tab.u35 @tab.u4) (And.intro @tab.u5 (And.intro @tab.u75 @tab.u9)))))))
def oncgb1 :=
  (And.intro oncgc1 (And.intro oncgc0 oncgc2))
def oncgb2 :=
  (And.intro (And.intro (And.intro oncgc1 oncgc0) (And.intro oncgc2 @bwk_a)) (And.intro (And.intro @eq_self.{1} @forall_const.{1}) (And.intro @implies_true.{0} @implies_true.{1})))
def oncgb4 :=
  (And.intro (And.intro (And.intro oncgc1 oncgc0) (And.intro oncgc2 (And.intro @Ent_nilsl @brows_nil))) (And.intro (And.intro @bwk_a (And.intro @eq_self.{1} @forall_const.{1})) (And.intro @frows_nil (And.intro @implies_true.{0} @implies_true.{1}))))
def oncgb5 :=
  (And.intro (And.intro (And.intro @List.length_cons.{0} @List.length_nil.{0}) (And.intro @Nat.zero_add @roL_in)) (And.intro (And.intro @roL_nil @roL_none) (And.intro @roL_row @ro_mk)))
def oncgb6 :=
  (And.intro (And.intro (And.intro oncgc1 oncgc0) (And.intro oncgc2 @bwk_a)) (And.intro (And.intro @eq_self.{1} @forall_const.{1}) (And.intro @hrR (And.intro @implies_true.{0} @implies_true.{1}))))
def oncgb7 :=
  (And.intro (And.intro oncgc1 oncgc0) (And.intro oncgc2 (And.intro @b137s @bs127)))
def oncgb8 :=
  (And.intro (And.intro oncgc1 oncgc0) (And.intro oncgc2 @bs124))
def oncgb9 :=
  (And.intro (And.intro oncgc1 oncgc0) (And.intro oncgc2 @bs124_0))
set_option maxHeartbeats 8000000 in
theorem play0 (i0 i1 : I16) (T : Tk) (kd sd ii : Int) (tx : Tx) (i : Nat) (iv : Int) (hsd : IntKind.i64.wrap ((IntKind.u64.wrap sd).tmod 2) = 0)
    (hidx : 0 < (T.w false).length → IntKind.i64.wrap ((IntKind.u64.wrap ii).tmod (IntKind.u64.wrap ((T.w false).length : Int))) = (i : Int) ∧ i < (T.w false).length) (hiv : iv = if (T.w false).length = 0 then -1 else (i : Int))
    (hwl : (T.w false).length ≤ 200) (hb : (T.e false).base + (T.e false).ts.length < 100000) (hgo : (T.e false).got < 100000) (hc : T.c false < 100000) (hgl : (T.g false).length < 100000) (hsl : (T.s false).length < 100000)
    (hts : (T.e false).up = true → ∀ t ∈ (T.e false).ts, t.length ≤ 4096) (htx : tx.length ≤ 140737488355328)
    (hda : ∀ f ∈ T.w false, ∀ a b n t, f = .da a b n t → I64 (n : Int) ∧ t.length ≤ 140737488355328) (hak : ∀ f ∈ T.w false, ∀ a b n, f = .ak a b n → I64 (n : Int))
    (T' : Tk) (hT : T' = playT i0 T false kd i tx) :
    SCall Try.prog 94 [.ptr 0 0 0, .agg [.v (.int .i64 kd), .v (.int .i64 sd), .v (.int .i64 ii), bsl tx]] [some (.row ⟨10, 1, true, 130, fun _ => [.ptr 1 0 0, .ptr 4 0 0, .slc 7 0 (T.w false).length, .slc 8 0 (T.w true).length, .v (.int .i64 ((T.c false) : Int)), .v (.int .i64 ((T.c true) : Int)), .slc 9 0 (T.s false).length, .slc 10 0 (T.s true).length, .slc 11 0 (T.g false).length, .slc 12 0 (T.g true).length]⟩),
      some (.row ⟨39, 1, true, 204, fun _ => EC.c ⟨i0, .v (.bool (T.e false).up), .v (.bool (T.e false).op), .v (.int .i64 (nI (T.e false).m)), .v (.int .i64 ((T.e false).m : Int)), .v (.int .i64 (nI (T.e false).p)), .v (.int .i64 ((T.e false).p : Int)), (T.e false).pid, .ptr 2 0 0⟩⟩),
      some (.row ⟨3, 1, true, 197, fun _ => [.v (.int .i64 ((T.e false).base : Int)), .slc 3 0 (T.e false).ts.length, .v (.int .i64 ((T.e false).got : Int))]⟩),
      some (.row ⟨1, (T.e false).ts.length, true, 35, trow (T.e false).ts⟩),
      some (.row ⟨39, 1, true, 204, fun _ => EC.c ⟨i1, .v (.bool (T.e true).up), .v (.bool (T.e true).op), .v (.int .i64 (nI (T.e true).m)), .v (.int .i64 ((T.e true).m : Int)), .v (.int .i64 (nI (T.e true).p)), .v (.int .i64 ((T.e true).p : Int)), (T.e true).pid, .ptr 5 0 0⟩⟩),
      some (.row ⟨3, 1, true, 197, fun _ => [.v (.int .i64 ((T.e true).base : Int)), .slc 6 0 (T.e true).ts.length, .v (.int .i64 ((T.e true).got : Int))]⟩),
      some (.row ⟨1, (T.e true).ts.length, true, 35, trow (T.e true).ts⟩),
      some (.row ⟨95, (T.w false).length, true, 151, wrow (T.w false)⟩),
      some (.row ⟨95, (T.w true).length, true, 151, wrow (T.w true)⟩),
      some (.row ⟨5, (T.s false).length, true, 137, srow (T.s false)⟩),
      some (.row ⟨5, (T.s true).length, true, 137, srow (T.s true)⟩),
      some (.row ⟨5, (T.g false).length, true, 137, srow (T.g false)⟩),
      some (.row ⟨5, (T.g true).length, true, 137, srow (T.g true)⟩)]
      fun r L => r = .ret (.tup []) ∧ L = [some (.row ⟨10, 1, true, 130, fun _ => [.ptr 13 0 0, .ptr 16 0 0, .slc 19 0 (T'.w false).length, .slc 20 0 (T'.w true).length, .v (.int .i64 ((T'.c false) : Int)), .v (.int .i64 ((T'.c true) : Int)), .slc 21 0 (T'.s false).length, .slc 22 0 (T'.s true).length, .slc 23 0 (T'.g false).length, .slc 24 0 (T'.g true).length]⟩),
      none,
      none,
      none,
      none,
      none,
      none,
      none,
      none,
      none,
      none,
      none,
      none,
      some (.row ⟨39, 1, true, 204, fun _ => EC.c ⟨i0, .v (.bool (T'.e false).up), .v (.bool (T'.e false).op), .v (.int .i64 (nI (T'.e false).m)), .v (.int .i64 ((T'.e false).m : Int)), .v (.int .i64 (nI (T'.e false).p)), .v (.int .i64 ((T'.e false).p : Int)), (T'.e false).pid, .ptr 14 0 0⟩⟩),
      some (.row ⟨3, 1, true, 197, fun _ => [.v (.int .i64 ((T'.e false).base : Int)), .slc 15 0 (T'.e false).ts.length, .v (.int .i64 ((T'.e false).got : Int))]⟩),
      some (.row ⟨1, (T'.e false).ts.length, true, 35, trow (T'.e false).ts⟩),
      some (.row ⟨39, 1, true, 204, fun _ => EC.c ⟨i1, .v (.bool (T'.e true).up), .v (.bool (T'.e true).op), .v (.int .i64 (nI (T'.e true).m)), .v (.int .i64 ((T'.e true).m : Int)), .v (.int .i64 (nI (T'.e true).p)), .v (.int .i64 ((T'.e true).p : Int)), (T'.e true).pid, .ptr 17 0 0⟩⟩),
      some (.row ⟨3, 1, true, 197, fun _ => [.v (.int .i64 ((T'.e true).base : Int)), .slc 18 0 (T'.e true).ts.length, .v (.int .i64 ((T'.e true).got : Int))]⟩),
      some (.row ⟨1, (T'.e true).ts.length, true, 35, trow (T'.e true).ts⟩),
      some (.row ⟨95, (T'.w false).length, true, 151, wrow (T'.w false)⟩),
      some (.row ⟨95, (T'.w true).length, true, 151, wrow (T'.w true)⟩),
      some (.row ⟨5, (T'.s false).length, true, 137, srow (T'.s false)⟩),
      some (.row ⟨5, (T'.s true).length, true, 137, srow (T'.s true)⟩),
      some (.row ⟨5, (T'.g false).length, true, 137, srow (T'.g false)⟩),
      some (.row ⟨5, (T'.g true).length, true, 137, srow (T'.g true)⟩)] := by
  have hz : nI 0 = 0 := rfl
  have hzz : ((0 : Nat) : Int) = 0 := rfl
  refine SCall.mk (fn := Try.f94) (by kernel_rfl) rfl (Nat.le_of_ble_eq_true (by kernel_rfl)) ?_
  refine Sem.go (k := 2) ?_
  simp -dsimp (decide := true) (maxSteps := 1000000) (disch := first | omega | simp (decide := true) only [oncgb0]) only [oncgb1, ↓brun_b, envOf, reduceIte, Nat.reduceEqDiff, Nat.reduceAdd, Nat.reduceSub, Nat.reduceMul, Nat.reduceBEq, Nat.reduceLeDiff, Nat.reduceLT, Int.reduceToNat, rho]
  refine Sem.weakenM (s' := ⟨163, 13, [(0, .ptr 0 0 0), (3, .ptr 25 0 0)], [some (.row ⟨10, 1, true, 130, fun _ => [.ptr 13 0 0, .ptr 16 0 0, .slc 19 0 (T.w false).length, .slc 20 0 (T.w true).length, .v (.int .i64 ((T.c false) : Int)), .v (.int .i64 ((T.c true) : Int)), .slc 21 0 (T.s false).length, .slc 22 0 (T.s true).length, .slc 23 0 (T.g false).length, .slc 24 0 (T.g true).length]⟩),
      none,
      none,
      none,
      none,
      none,
      none,
      none,
      none,
      none,
      none,
      none,
      none,
      some (.row ⟨39, 1, true, 204, fun _ => EC.c ⟨i0, .v (.bool (T.e false).up), .v (.bool (T.e false).op), .v (.int .i64 (nI (T.e false).m)), .v (.int .i64 ((T.e false).m : Int)), .v (.int .i64 (nI (T.e false).p)), .v (.int .i64 ((T.e false).p : Int)), (T.e false).pid, .ptr 14 0 0⟩⟩),
      some (.row ⟨3, 1, true, 197, fun _ => [.v (.int .i64 ((T.e false).base : Int)), .slc 15 0 (T.e false).ts.length, .v (.int .i64 ((T.e false).got : Int))]⟩),
      some (.row ⟨1, (T.e false).ts.length, true, 35, trow (T.e false).ts⟩),
      some (.row ⟨39, 1, true, 204, fun _ => EC.c ⟨i1, .v (.bool (T.e true).up), .v (.bool (T.e true).op), .v (.int .i64 (nI (T.e true).m)), .v (.int .i64 ((T.e true).m : Int)), .v (.int .i64 (nI (T.e true).p)), .v (.int .i64 ((T.e true).p : Int)), (T.e true).pid, .ptr 17 0 0⟩⟩),
      some (.row ⟨3, 1, true, 197, fun _ => [.v (.int .i64 ((T.e true).base : Int)), .slc 18 0 (T.e true).ts.length, .v (.int .i64 ((T.e true).got : Int))]⟩),
      some (.row ⟨1, (T.e true).ts.length, true, 35, trow (T.e true).ts⟩),
      some (.row ⟨95, (T.w false).length, true, 151, wrow (T.w false)⟩),
      some (.row ⟨95, (T.w true).length, true, 151, wrow (T.w true)⟩),
      some (.row ⟨5, (T.s false).length, true, 137, srow (T.s false)⟩),
      some (.row ⟨5, (T.s true).length, true, 137, srow (T.s true)⟩),
      some (.row ⟨5, (T.g false).length, true, 137, srow (T.g false)⟩),
      some (.row ⟨5, (T.g true).length, true, 137, srow (T.g true)⟩),
      some (.row ⟨4, 1, true, 132, fun _ => [.v (.int .i64 kd), .v (.int .i64 sd), .v (.int .i64 ii), bsl tx]⟩)]⟩) [0, 1, 2, 3, 4, 5, 6, 7, 8, 9, 10, 11, 12, 1, 2, 3, 4, 5, 6, 7, 8, 9, 10, 11, 12, 13] ⟨rfl, rfl, rfl, rfl, rfl, rfl, ?_, ?_⟩ ?_
  · simp -dsimp (decide := true) (maxSteps := 1000000) (disch := first | omega | simp (decide := true) only [oncgb0]) only [oncgb2, ↓brun_b, envOf, reduceIte, Nat.reduceEqDiff, Nat.reduceAdd, Nat.reduceSub, Nat.reduceMul, Nat.reduceBEq, Nat.reduceLeDiff, Nat.reduceLT, Int.reduceToNat, rho, frz1, ↓reduceIte]
  · simp -dsimp (decide := true) (maxSteps := 1000000) (disch := first | omega | simp (decide := true) only [oncgb0]) only [oncgb2, ↓brun_b, envOf, reduceIte, Nat.reduceEqDiff, Nat.reduceAdd, Nat.reduceSub, Nat.reduceMul, Nat.reduceBEq, Nat.reduceLeDiff, Nat.reduceLT, Int.reduceToNat, rho, frz1, ↓reduceIte]
  refine Sem.go (k := 5) ?_
  simp -dsimp (decide := true) (maxSteps := 1000000) (disch := first | omega | simp (decide := true) only [oncgb0]) only [oncgb1, ↓brun_b, envOf, reduceIte, Nat.reduceEqDiff, Nat.reduceAdd, Nat.reduceSub, Nat.reduceMul, Nat.reduceBEq, Nat.reduceLeDiff, Nat.reduceLT, Int.reduceToNat, rho, hsd]
  have hwiv : decide (0 ≤ (i : Int)) = true := decide_eq_true (by omega)
  refine Sem.cutW [_] ⟨163, 13, [(0, .ptr 0 0 0), (3, .ptr 25 0 0), (4, .v (.int .i64 0)), (5, .v (.int .i64 iv))], [some (.row ⟨10, 1, true, 130, fun _ => [.ptr 13 0 0, .ptr 16 0 0, .slc 19 0 (T.w false).length, .slc 20 0 (T.w true).length, .v (.int .i64 ((T.c false) : Int)), .v (.int .i64 ((T.c true) : Int)), .slc 21 0 (T.s false).length, .slc 22 0 (T.s true).length, .slc 23 0 (T.g false).length, .slc 24 0 (T.g true).length]⟩),
      none,
      none,
      none,
      none,
      none,
      none,
      none,
      none,
      none,
      none,
      none,
      none,
      some (.row ⟨39, 1, true, 204, fun _ => EC.c ⟨i0, .v (.bool (T.e false).up), .v (.bool (T.e false).op), .v (.int .i64 (nI (T.e false).m)), .v (.int .i64 ((T.e false).m : Int)), .v (.int .i64 (nI (T.e false).p)), .v (.int .i64 ((T.e false).p : Int)), (T.e false).pid, .ptr 14 0 0⟩⟩),
      some (.row ⟨3, 1, true, 197, fun _ => [.v (.int .i64 ((T.e false).base : Int)), .slc 15 0 (T.e false).ts.length, .v (.int .i64 ((T.e false).got : Int))]⟩),
      some (.row ⟨1, (T.e false).ts.length, true, 35, trow (T.e false).ts⟩),
      some (.row ⟨39, 1, true, 204, fun _ => EC.c ⟨i1, .v (.bool (T.e true).up), .v (.bool (T.e true).op), .v (.int .i64 (nI (T.e true).m)), .v (.int .i64 ((T.e true).m : Int)), .v (.int .i64 (nI (T.e true).p)), .v (.int .i64 ((T.e true).p : Int)), (T.e true).pid, .ptr 17 0 0⟩⟩),
      some (.row ⟨3, 1, true, 197, fun _ => [.v (.int .i64 ((T.e true).base : Int)), .slc 18 0 (T.e true).ts.length, .v (.int .i64 ((T.e true).got : Int))]⟩),
      some (.row ⟨1, (T.e true).ts.length, true, 35, trow (T.e true).ts⟩),
      some (.row ⟨95, (T.w false).length, true, 151, wrow (T.w false)⟩),
      some (.row ⟨95, (T.w true).length, true, 151, wrow (T.w true)⟩),
      some (.row ⟨5, (T.s false).length, true, 137, srow (T.s false)⟩),
      some (.row ⟨5, (T.s true).length, true, 137, srow (T.s true)⟩),
      some (.row ⟨5, (T.g false).length, true, 137, srow (T.g false)⟩),
      some (.row ⟨5, (T.g true).length, true, 137, srow (T.g true)⟩),
      some (.row ⟨4, 1, true, 132, fun _ => [.v (.int .i64 kd), .v (.int .i64 sd), .v (.int .i64 ii), bsl tx]⟩)]⟩ ?_ ?_
  · refine Sem.go (k := 1000) ?_
    simp -dsimp (decide := true) (maxSteps := 1000000) (disch := first | omega | simp (decide := true) only [oncgb0]) only [oncgb1, ↓brun_b, envOf, reduceIte, Nat.reduceEqDiff, Nat.reduceAdd, Nat.reduceSub, Nat.reduceMul, Nat.reduceBEq, Nat.reduceLeDiff, Nat.reduceLT, Int.reduceToNat, rho]
    refine SCond.split (fun h => ?_) (fun h => ?_)
    · simp only [decide_eq_true_eq] at h
      obtain ⟨h1, h2⟩ := hidx (by omega)
      rw [if_neg (by omega)] at hiv
      simp -dsimp (decide := true) (maxSteps := 1000000) (disch := first | omega | simp (decide := true) only [oncgb0]) only [oncgb1, ↓brun_b, envOf, reduceIte, Nat.reduceEqDiff, Nat.reduceAdd, Nat.reduceSub, Nat.reduceMul, Nat.reduceBEq, Nat.reduceLeDiff, Nat.reduceLT, Int.reduceToNat, rho, h1]
      (repeat refine And.intro (by first | omega | (rw [wrap_u64 _ (by omega)]; omega)) ?_)
      refine ⟨[0, 1, 2, 3, 4, 5, 6, 7, 8, 9, 10, 11, 12, 13, 14, 15, 16, 17, 18, 19, 20, 21, 22, 23, 24, 25], ?_⟩
      (refine Wk.ofC ?_; simp -dsimp (decide := true) (maxSteps := 1000000) (disch := first | omega | simp (decide := true) only [oncgb0]) only [oncgb2, ↓brun_b, envOf, reduceIte, Nat.reduceEqDiff, Nat.reduceAdd, Nat.reduceSub, Nat.reduceMul, Nat.reduceBEq, Nat.reduceLeDiff, Nat.reduceLT, Int.reduceToNat, rho, hiv, frz1, ↓reduceIte])
    · simp only [decide_eq_false_iff_not] at h
      rw [if_pos (by omega)] at hiv
      simp -dsimp (decide := true) (maxSteps := 1000000) (disch := first | omega | simp (decide := true) only [oncgb0]) only [oncgb1, ↓brun_b, envOf, reduceIte, Nat.reduceEqDiff, Nat.reduceAdd, Nat.reduceSub, Nat.reduceMul, Nat.reduceBEq, Nat.reduceLeDiff, Nat.reduceLT, Int.reduceToNat, rho]
      refine ⟨[0, 1, 2, 3, 4, 5, 6, 7, 8, 9, 10, 11, 12, 13, 14, 15, 16, 17, 18, 19, 20, 21, 22, 23, 24, 25], ?_⟩
      (refine Wk.ofC ?_; simp -dsimp (decide := true) (maxSteps := 1000000) (disch := first | omega | simp (decide := true) only [oncgb0]) only [oncgb2, ↓brun_b, envOf, reduceIte, Nat.reduceEqDiff, Nat.reduceAdd, Nat.reduceSub, Nat.reduceMul, Nat.reduceBEq, Nat.reduceLeDiff, Nat.reduceLT, Int.reduceToNat, rho, hiv, frz1, ↓reduceIte])
  · refine Sem.go (k := 1000) ?_
    simp -dsimp (decide := true) (maxSteps := 1000000) (disch := first | omega | simp (decide := true) only [oncgb0]) only [oncgb1, ↓brun_b, envOf, reduceIte, Nat.reduceEqDiff, Nat.reduceAdd, Nat.reduceSub, Nat.reduceMul, Nat.reduceBEq, Nat.reduceLeDiff, Nat.reduceLT, Int.reduceToNat, rho]
    refine SCond.split (fun h0 => ?_) (fun h0 => ?_)
    · have hk0 : kd = 0 := by simpa using h0
      have hT2 : T' = riseT i0 T false := by rw [hT, playT, if_pos hk0]
      by_cases hup0 : (T.e false).up = true
      case' neg =>
        have hup : (T.e false).up = false := by simpa using hup0
        rw [riseT, if_neg hup0] at hT2
        clear hT
        subst hT2
        have hr := riseNo0 i0 i1 T hup (by omega)
        simp only [upd_ff, upd_tt, upd_ft, upd_tf, Bool.not_false, Bool.not_true, Tk.say, En.risen, nI_succ, hz]
        simp -dsimp (decide := true) (maxSteps := 1000000) (disch := first | omega | simp (decide := true) only [oncgb0]) only [oncgb1, ↓brun_b, envOf, reduceIte, Nat.reduceEqDiff, Nat.reduceAdd, Nat.reduceSub, Nat.reduceMul, Nat.reduceBEq, Nat.reduceLeDiff, Nat.reduceLT, Int.reduceToNat, rho]
        refine SemOps.callw [0, 13, 14, 15, 16, 17, 18, 19, 20, 21, 22, 23, 24] cal.f133 (hr) rfl rfl rfl (by simp -dsimp (decide := true) (maxSteps := 1000000) (disch := first | omega | simp (decide := true) only [oncgb0]) only [oncgb2, ↓brun_b, envOf, reduceIte, Nat.reduceEqDiff, Nat.reduceAdd, Nat.reduceSub, Nat.reduceMul, Nat.reduceBEq, Nat.reduceLeDiff, Nat.reduceLT, Int.reduceToNat, rho, frz1, ↓reduceIte]) rfl (by simp -dsimp (decide := true) (maxSteps := 1000000) (disch := first | omega | simp (decide := true) only [oncgb0]) only [oncgb2, ↓brun_b, envOf, reduceIte, Nat.reduceEqDiff, Nat.reduceAdd, Nat.reduceSub, Nat.reduceMul, Nat.reduceBEq, Nat.reduceLeDiff, Nat.reduceLT, Int.reduceToNat, rho, frz1, ↓reduceIte]) (by simp -dsimp (decide := true) (maxSteps := 1000000) (disch := first | omega | simp (decide := true) only [oncgb0]) only [oncgc2, ↓brun_b, envOf, reduceIte, Nat.reduceEqDiff, Nat.reduceAdd, Nat.reduceSub, Nat.reduceMul, Nat.reduceBEq, Nat.reduceLeDiff, Nat.reduceLT, Int.reduceToNat]) ?_
        refine SemOps.go (k := 1000) ?_
        simp -dsimp (decide := true) (maxSteps := 1000000) (disch := first | omega | simp (decide := true) only [oncgb0]) only [oncgb1, ↓brun_b, envOf, reduceIte, Nat.reduceEqDiff, Nat.reduceAdd, Nat.reduceSub, Nat.reduceMul, Nat.reduceBEq, Nat.reduceLeDiff, Nat.reduceLT, Int.reduceToNat, rho]
        refine SQ.fin (SQ.runL (rs := []) [0, 1, 2, 3, 4, 5, 6, 7, 8, 9, 10, 11, 12, 13, 26, 27, 16, 17, 18, 19, 28, 21, 22, 23, 24] _ _ rfl (And.intro rfl rfl) (by decide) rfl rfl ?_ ?_)
        · simp -dsimp (decide := true) (maxSteps := 1000000) (disch := first | omega | simp (decide := true) only [oncgb0]) only [oncgb2, ↓brun_b, envOf, reduceIte, Nat.reduceEqDiff, Nat.reduceAdd, Nat.reduceSub, Nat.reduceMul, Nat.reduceBEq, Nat.reduceLeDiff, Nat.reduceLT, Int.reduceToNat, rho, hz, hzz, frz1, ↓reduceIte]
        · simp -dsimp (decide := true) (maxSteps := 1000000) (disch := first | omega | simp (decide := true) only [oncgb0]) only [oncgb2, ↓brun_b, envOf, reduceIte, Nat.reduceEqDiff, Nat.reduceAdd, Nat.reduceSub, Nat.reduceMul, Nat.reduceBEq, Nat.reduceLeDiff, Nat.reduceLT, Int.reduceToNat, rho, hz, hzz, frz1, ↓reduceIte]
          exact Ent.eq rfl
      case' pos =>
        have hup := hup0
        rw [riseT, if_pos hup] at hT2
        clear hT
        subst hT2
        have hr := riseUp0 i0 i1 T' hup
        simp -dsimp (decide := true) (maxSteps := 1000000) (disch := first | omega | simp (decide := true) only [oncgb0]) only [oncgb1, ↓brun_b, envOf, reduceIte, Nat.reduceEqDiff, Nat.reduceAdd, Nat.reduceSub, Nat.reduceMul, Nat.reduceBEq, Nat.reduceLeDiff, Nat.reduceLT, Int.reduceToNat, rho]
        refine SemOps.callw [0, 13, 14, 15, 16, 17, 18, 19, 20, 21, 22, 23, 24] cal.f133 (hr) rfl rfl rfl (by simp -dsimp (decide := true) (maxSteps := 1000000) (disch := first | omega | simp (decide := true) only [oncgb0]) only [oncgb2, ↓brun_b, envOf, reduceIte, Nat.reduceEqDiff, Nat.reduceAdd, Nat.reduceSub, Nat.reduceMul, Nat.reduceBEq, Nat.reduceLeDiff, Nat.reduceLT, Int.reduceToNat, rho, frz1, ↓reduceIte]) rfl (by simp -dsimp (decide := true) (maxSteps := 1000000) (disch := first | omega | simp (decide := true) only [oncgb0]) only [oncgb2, ↓brun_b, envOf, reduceIte, Nat.reduceEqDiff, Nat.reduceAdd, Nat.reduceSub, Nat.reduceMul, Nat.reduceBEq, Nat.reduceLeDiff, Nat.reduceLT, Int.reduceToNat, rho, frz1, ↓reduceIte]) (by simp -dsimp (decide := true) (maxSteps := 1000000) (disch := first | omega | simp (decide := true) only [oncgb0]) only [oncgc2, ↓brun_b, envOf, reduceIte, Nat.reduceEqDiff, Nat.reduceAdd, Nat.reduceSub, Nat.reduceMul, Nat.reduceBEq, Nat.reduceLeDiff, Nat.reduceLT, Int.reduceToNat]) ?_
        refine SemOps.go (k := 1000) ?_
        simp -dsimp (decide := true) (maxSteps := 1000000) (disch := first | omega | simp (decide := true) only [oncgb0]) only [oncgb1, ↓brun_b, envOf, reduceIte, Nat.reduceEqDiff, Nat.reduceAdd, Nat.reduceSub, Nat.reduceMul, Nat.reduceBEq, Nat.reduceLeDiff, Nat.reduceLT, Int.reduceToNat, rho]
        refine SQ.fin (SQ.runL (rs := []) [0, 1, 2, 3, 4, 5, 6, 7, 8, 9, 10, 11, 12, 13, 14, 15, 16, 17, 18, 19, 20, 21, 22, 23, 24] _ _ rfl (And.intro rfl rfl) (by decide) rfl rfl ?_ ?_)
        · simp -dsimp (decide := true) (maxSteps := 1000000) (disch := first | omega | simp (decide := true) only [oncgb0]) only [oncgb2, ↓brun_b, envOf, reduceIte, Nat.reduceEqDiff, Nat.reduceAdd, Nat.reduceSub, Nat.reduceMul, Nat.reduceBEq, Nat.reduceLeDiff, Nat.reduceLT, Int.reduceToNat, rho, hz, hzz, frz1, ↓reduceIte]
        · simp -dsimp (decide := true) (maxSteps := 1000000) (disch := first | omega | simp (decide := true) only [oncgb0]) only [oncgb2, ↓brun_b, envOf, reduceIte, Nat.reduceEqDiff, Nat.reduceAdd, Nat.reduceSub, Nat.reduceMul, Nat.reduceBEq, Nat.reduceLeDiff, Nat.reduceLT, Int.reduceToNat, rho, hz, hzz, frz1, ↓reduceIte]
          exact Ent.eq rfl
    have hk0 : ¬ kd = 0 := by simpa using h0
    simp -dsimp (decide := true) (maxSteps := 1000000) (disch := first | omega | simp (decide := true) only [oncgb0]) only [oncgb1, ↓brun_b, envOf, reduceIte, Nat.reduceEqDiff, Nat.reduceAdd, Nat.reduceSub, Nat.reduceMul, Nat.reduceBEq, Nat.reduceLeDiff, Nat.reduceLT, Int.reduceToNat, rho]
    refine SCond.split (fun h1 => ?_) (fun h1 => ?_)
    · have hk1 : kd = 1 := by simpa using h1
      have hT2 : T' = { T with e := upd T.e false En.down } := by rw [hT, playT, if_neg hk0, if_pos hk1]
      clear hT
      subst hT2
      simp only [upd_ff, upd_tt, upd_ft, upd_tf, Bool.not_false, Bool.not_true, Tk.say, En.down, hz]
      generalize he : T.e false = e at *
      obtain ⟨up, op, m, p, pid, base, got, ts⟩ := e
      simp only at *
      have hr := fall_calls i0 pid up op (nI m) (m : Int) (nI p) (p : Int) (base : Int) (got : Int) ts
      simp -dsimp (decide := true) (maxSteps := 1000000) (disch := first | omega | simp (decide := true) only [oncgb0]) only [oncgb1, ↓brun_b, envOf, reduceIte, Nat.reduceEqDiff, Nat.reduceAdd, Nat.reduceSub, Nat.reduceMul, Nat.reduceBEq, Nat.reduceLeDiff, Nat.reduceLT, Int.reduceToNat, rho]
      refine SemOps.callw [13, 14, 15] cal.f98 (hr) rfl rfl rfl (by simp -dsimp (decide := true) (maxSteps := 1000000) (disch := first | omega | simp (decide := true) only [oncgb0]) only [oncgb2, ↓brun_b, envOf, reduceIte, Nat.reduceEqDiff, Nat.reduceAdd, Nat.reduceSub, Nat.reduceMul, Nat.reduceBEq, Nat.reduceLeDiff, Nat.reduceLT, Int.reduceToNat, rho, frz1, ↓reduceIte]) rfl (by simp -dsimp (decide := true) (maxSteps := 1000000) (disch := first | omega | simp (decide := true) only [oncgb0]) only [oncgb2, ↓brun_b, envOf, reduceIte, Nat.reduceEqDiff, Nat.reduceAdd, Nat.reduceSub, Nat.reduceMul, Nat.reduceBEq, Nat.reduceLeDiff, Nat.reduceLT, Int.reduceToNat, rho, frz1, ↓reduceIte]) (by simp -dsimp (decide := true) (maxSteps := 1000000) (disch := first | omega | simp (decide := true) only [oncgb0]) only [oncgc2, ↓brun_b, envOf, reduceIte, Nat.reduceEqDiff, Nat.reduceAdd, Nat.reduceSub, Nat.reduceMul, Nat.reduceBEq, Nat.reduceLeDiff, Nat.reduceLT, Int.reduceToNat]) ?_
      refine SemOps.go (k := 1000) ?_
      simp -dsimp (decide := true) (maxSteps := 1000000) (disch := first | omega | simp (decide := true) only [oncgb0]) only [oncgb1, ↓brun_b, envOf, reduceIte, Nat.reduceEqDiff, Nat.reduceAdd, Nat.reduceSub, Nat.reduceMul, Nat.reduceBEq, Nat.reduceLeDiff, Nat.reduceLT, Int.reduceToNat, rho]
      refine SQ.fin (SQ.runL (rs := []) [0, 1, 2, 3, 4, 5, 6, 7, 8, 9, 10, 11, 12, 13, 26, 27, 16, 17, 18, 19, 20, 21, 22, 23, 24] _ _ rfl (And.intro rfl rfl) (by decide) rfl rfl ?_ ?_)
      · simp -dsimp (decide := true) (maxSteps := 1000000) (disch := first | omega | simp (decide := true) only [oncgb0]) only [oncgb2, ↓brun_b, envOf, reduceIte, Nat.reduceEqDiff, Nat.reduceAdd, Nat.reduceSub, Nat.reduceMul, Nat.reduceBEq, Nat.reduceLeDiff, Nat.reduceLT, Int.reduceToNat, rho, hz, hzz, frz1, ↓reduceIte]
      · simp -dsimp (decide := true) (maxSteps := 1000000) (disch := first | omega | simp (decide := true) only [oncgb0]) only [oncgb2, ↓brun_b, envOf, reduceIte, Nat.reduceEqDiff, Nat.reduceAdd, Nat.reduceSub, Nat.reduceMul, Nat.reduceBEq, Nat.reduceLeDiff, Nat.reduceLT, Int.reduceToNat, rho, hz, hzz, frz1, ↓reduceIte]
        exact Ent.eq rfl
    have hk1 : ¬ kd = 1 := by simpa using h1
    simp -dsimp (decide := true) (maxSteps := 1000000) (disch := first | omega | simp (decide := true) only [oncgb0]) only [oncgb1, ↓brun_b, envOf, reduceIte, Nat.reduceEqDiff, Nat.reduceAdd, Nat.reduceSub, Nat.reduceMul, Nat.reduceBEq, Nat.reduceLeDiff, Nat.reduceLT, Int.reduceToNat, rho]
    refine SCond.split (fun h2 => ?_) (fun h2 => ?_)
    · have hk2 : kd = 2 := by simpa using h2
      have hT2 : T' = T.say false (tick i0 (T.e false)) := by rw [hT, playT, if_neg hk0, if_neg hk1, if_pos hk2]
      clear hT
      generalize he : T.e false = e at *
      obtain ⟨up, op, m, p, pid, base, got, ts⟩ := e
      simp only at *
      cases up
      · simp only [tick, if_true] at hT2
        subst hT2
        simp only [upd_ff, upd_tt, upd_ft, upd_tf, Bool.not_false, Bool.not_true, Tk.say, sayL_nil, he]
        have hr := tickDown_calls i0 pid op (nI m) (m : Int) (nI p) (p : Int) (base : Int) (got : Int) ts
        have hs := say0 i0 i1 T ([]) (by simp; try omega)
        simp only [he, sayL_nil] at hs
        simp -dsimp (decide := true) (maxSteps := 1000000) (disch := first | omega | simp (decide := true) only [oncgb0]) only [oncgb1, ↓brun_b, envOf, reduceIte, Nat.reduceEqDiff, Nat.reduceAdd, Nat.reduceSub, Nat.reduceMul, Nat.reduceBEq, Nat.reduceLeDiff, Nat.reduceLT, Int.reduceToNat, rho]
        refine SemOps.callw [13, 14, 15] cal.f100 (hr) rfl rfl rfl (by simp -dsimp (decide := true) (maxSteps := 1000000) (disch := first | omega | simp (decide := true) only [oncgb0]) only [oncgb2, ↓brun_b, envOf, reduceIte, Nat.reduceEqDiff, Nat.reduceAdd, Nat.reduceSub, Nat.reduceMul, Nat.reduceBEq, Nat.reduceLeDiff, Nat.reduceLT, Int.reduceToNat, rho, frz1, ↓reduceIte]) rfl (by simp -dsimp (decide := true) (maxSteps := 1000000) (disch := first | omega | simp (decide := true) only [oncgb0]) only [oncgb2, ↓brun_b, envOf, reduceIte, Nat.reduceEqDiff, Nat.reduceAdd, Nat.reduceSub, Nat.reduceMul, Nat.reduceBEq, Nat.reduceLeDiff, Nat.reduceLT, Int.reduceToNat, rho, frz1, ↓reduceIte]) (by simp -dsimp (decide := true) (maxSteps := 1000000) (disch := first | omega | simp (decide := true) only [oncgb0]) only [oncgc2, ↓brun_b, envOf, reduceIte, Nat.reduceEqDiff, Nat.reduceAdd, Nat.reduceSub, Nat.reduceMul, Nat.reduceBEq, Nat.reduceLeDiff, Nat.reduceLT, Int.reduceToNat]) ?_
        refine SemOps.go (k := 1000) ?_
        simp -dsimp (decide := true) (maxSteps := 1000000) (disch := first | omega | simp (decide := true) only [oncgb0]) only [oncgb1, ↓brun_b, envOf, reduceIte, Nat.reduceEqDiff, Nat.reduceAdd, Nat.reduceSub, Nat.reduceMul, Nat.reduceBEq, Nat.reduceLeDiff, Nat.reduceLT, Int.reduceToNat, rho]
        refine SemOps.callw [0, 13, 14, 15, 16, 17, 18, 19, 20, 21, 22, 23, 24] cal.f134 (hs) rfl rfl rfl (by simp -dsimp (decide := true) (maxSteps := 1000000) (disch := first | omega | simp (decide := true) only [oncgb0]) only [oncgb4, ↓brun_b, envOf, reduceIte, Nat.reduceEqDiff, Nat.reduceAdd, Nat.reduceSub, Nat.reduceMul, Nat.reduceBEq, Nat.reduceLeDiff, Nat.reduceLT, Int.reduceToNat, rho, bsl, List.map_cons, List.map_nil, frz1, ↓reduceIte]) rfl (by simp -dsimp (decide := true) (maxSteps := 1000000) (disch := first | omega | simp (decide := true) only [oncgb0]) only [oncgb4, ↓brun_b, envOf, reduceIte, Nat.reduceEqDiff, Nat.reduceAdd, Nat.reduceSub, Nat.reduceMul, Nat.reduceBEq, Nat.reduceLeDiff, Nat.reduceLT, Int.reduceToNat, rho, bsl, List.map_cons, List.map_nil, frz1, ↓reduceIte]) (by simp -dsimp (decide := true) (maxSteps := 1000000) (disch := first | omega | simp (decide := true) only [oncgb0]) only [oncgc2, ↓brun_b, envOf, reduceIte, Nat.reduceEqDiff, Nat.reduceAdd, Nat.reduceSub, Nat.reduceMul, Nat.reduceBEq, Nat.reduceLeDiff, Nat.reduceLT, Int.reduceToNat]) ?_
        refine SemOps.go (k := 1000) ?_
        simp -dsimp (decide := true) (maxSteps := 1000000) (disch := first | omega | simp (decide := true) only [oncgb0]) only [oncgb1, ↓brun_b, envOf, reduceIte, Nat.reduceEqDiff, Nat.reduceAdd, Nat.reduceSub, Nat.reduceMul, Nat.reduceBEq, Nat.reduceLeDiff, Nat.reduceLT, Int.reduceToNat, rho]
        refine SQ.fin (SQ.runL (rs := []) [0, 1, 2, 3, 4, 5, 6, 7, 8, 9, 10, 11, 12, 13, 14, 15, 16, 17, 18, 19, 26, 21, 22, 23, 24] _ _ rfl (And.intro rfl rfl) (by decide) rfl rfl ?_ ?_)
        · simp -dsimp (decide := true) (maxSteps := 1000000) (disch := first | omega | simp (decide := true) only [oncgb0]) only [oncgb2, ↓brun_b, envOf, reduceIte, Nat.reduceEqDiff, Nat.reduceAdd, Nat.reduceSub, Nat.reduceMul, Nat.reduceBEq, Nat.reduceLeDiff, Nat.reduceLT, Int.reduceToNat, rho, hz, hzz, frz1, ↓reduceIte]
        · simp -dsimp (decide := true) (maxSteps := 1000000) (disch := first | omega | simp (decide := true) only [oncgb0]) only [oncgb2, ↓brun_b, envOf, reduceIte, Nat.reduceEqDiff, Nat.reduceAdd, Nat.reduceSub, Nat.reduceMul, Nat.reduceBEq, Nat.reduceLeDiff, Nat.reduceLT, Int.reduceToNat, rho, hz, hzz, frz1, ↓reduceIte]
          exact Ent.eq rfl
      · cases op
        · simp only [tick, Bool.true_eq_false, if_false, if_true] at hT2
          subst hT2
          simp only [upd_ff, upd_tt, upd_ft, upd_tf, Bool.not_false, Bool.not_true, Tk.say, he]
          have hr := tickHi_calls i0 pid (nI m) (m : Int) (nI p) (p : Int) (base : Int) (got : Int) ts
          have hs := say0 i0 i1 T ([Ms.hi m p i0]) (by simp; try omega)
          simp only [he, sayL_nil] at hs
          simp -dsimp (decide := true) (maxSteps := 1000000) (disch := first | omega | simp (decide := true) only [oncgb0]) only [oncgb1, ↓brun_b, envOf, reduceIte, Nat.reduceEqDiff, Nat.reduceAdd, Nat.reduceSub, Nat.reduceMul, Nat.reduceBEq, Nat.reduceLeDiff, Nat.reduceLT, Int.reduceToNat, rho]
          refine SemOps.callw [13, 14, 15] cal.f100 (hr) rfl rfl rfl (by simp -dsimp (decide := true) (maxSteps := 1000000) (disch := first | omega | simp (decide := true) only [oncgb0]) only [oncgb2, ↓brun_b, envOf, reduceIte, Nat.reduceEqDiff, Nat.reduceAdd, Nat.reduceSub, Nat.reduceMul, Nat.reduceBEq, Nat.reduceLeDiff, Nat.reduceLT, Int.reduceToNat, rho, frz1, ↓reduceIte]) rfl (by simp -dsimp (decide := true) (maxSteps := 1000000) (disch := first | omega | simp (decide := true) only [oncgb0]) only [oncgb2, ↓brun_b, envOf, reduceIte, Nat.reduceEqDiff, Nat.reduceAdd, Nat.reduceSub, Nat.reduceMul, Nat.reduceBEq, Nat.reduceLeDiff, Nat.reduceLT, Int.reduceToNat, rho, frz1, ↓reduceIte]) (by simp -dsimp (decide := true) (maxSteps := 1000000) (disch := first | omega | simp (decide := true) only [oncgb0]) only [oncgc2, ↓brun_b, envOf, reduceIte, Nat.reduceEqDiff, Nat.reduceAdd, Nat.reduceSub, Nat.reduceMul, Nat.reduceBEq, Nat.reduceLeDiff, Nat.reduceLT, Int.reduceToNat]) ?_
          refine SemOps.go (k := 1000) ?_
          simp -dsimp (decide := true) (maxSteps := 1000000) (disch := first | omega | simp (decide := true) only [oncgb0]) only [oncgb1, ↓brun_b, envOf, reduceIte, Nat.reduceEqDiff, Nat.reduceAdd, Nat.reduceSub, Nat.reduceMul, Nat.reduceBEq, Nat.reduceLeDiff, Nat.reduceLT, Int.reduceToNat, rho]
          refine SemOps.frz (d := 74) (frows ([Ms.hi m p i0].map Ms.frm)) rfl rfl rfl (Nat.le_refl 1) (frows1_ent (hiF_ent _ _ _ _ _)) ?_
          refine SemOps.callw [0, 13, 14, 15, 16, 17, 18, 19, 20, 21, 22, 23, 24] cal.f134 (hs) rfl rfl rfl (by simp -dsimp (decide := true) (maxSteps := 1000000) (disch := first | omega | simp (decide := true) only [oncgb0]) only [oncgb4, ↓brun_b, envOf, reduceIte, Nat.reduceEqDiff, Nat.reduceAdd, Nat.reduceSub, Nat.reduceMul, Nat.reduceBEq, Nat.reduceLeDiff, Nat.reduceLT, Int.reduceToNat, rho, bsl, List.map_cons, List.map_nil, frz1, ↓reduceIte]) rfl (by simp -dsimp (decide := true) (maxSteps := 1000000) (disch := first | omega | simp (decide := true) only [oncgb0]) only [oncgb4, ↓brun_b, envOf, reduceIte, Nat.reduceEqDiff, Nat.reduceAdd, Nat.reduceSub, Nat.reduceMul, Nat.reduceBEq, Nat.reduceLeDiff, Nat.reduceLT, Int.reduceToNat, rho, bsl, List.map_cons, List.map_nil, frz1, ↓reduceIte]) (by simp -dsimp (decide := true) (maxSteps := 1000000) (disch := first | omega | simp (decide := true) only [oncgb0]) only [oncgc2, ↓brun_b, envOf, reduceIte, Nat.reduceEqDiff, Nat.reduceAdd, Nat.reduceSub, Nat.reduceMul, Nat.reduceBEq, Nat.reduceLeDiff, Nat.reduceLT, Int.reduceToNat]) ?_
          refine SemOps.go (k := 1000) ?_
          simp -dsimp (decide := true) (maxSteps := 1000000) (disch := first | omega | simp (decide := true) only [oncgb0]) only [oncgb1, ↓brun_b, envOf, reduceIte, Nat.reduceEqDiff, Nat.reduceAdd, Nat.reduceSub, Nat.reduceMul, Nat.reduceBEq, Nat.reduceLeDiff, Nat.reduceLT, Int.reduceToNat, rho]
          refine SQ.fin (SQ.runL (rs := []) [0, 1, 2, 3, 4, 5, 6, 7, 8, 9, 10, 11, 12, 13, 14, 15, 16, 17, 18, 19, 27, 21, 22, 23, 24] _ _ rfl (And.intro rfl rfl) (by decide) rfl rfl ?_ ?_)
          · simp -dsimp (decide := true) (maxSteps := 1000000) (disch := first | omega | simp (decide := true) only [oncgb0]) only [oncgb2, ↓brun_b, envOf, reduceIte, Nat.reduceEqDiff, Nat.reduceAdd, Nat.reduceSub, Nat.reduceMul, Nat.reduceBEq, Nat.reduceLeDiff, Nat.reduceLT, Int.reduceToNat, rho, hz, hzz, frz1, ↓reduceIte]
          · simp -dsimp (decide := true) (maxSteps := 1000000) (disch := first | omega | simp (decide := true) only [oncgb0]) only [oncgb2, ↓brun_b, envOf, reduceIte, Nat.reduceEqDiff, Nat.reduceAdd, Nat.reduceSub, Nat.reduceMul, Nat.reduceBEq, Nat.reduceLeDiff, Nat.reduceLT, Int.reduceToNat, rho, hz, hzz, frz1, ↓reduceIte]
            exact Ent.eq rfl
        · simp only [tick, Bool.true_eq_false, if_false] at hT2
          subst hT2
          simp only [upd_ff, upd_tt, upd_ft, upd_tf, Bool.not_false, Bool.not_true, Tk.say, he]
          have htl := tickL_len m p base ts
          have hr := tickOpen_calls i0 pid (nI m) (m : Int) (nI p) (p : Int) (got : Int) base ts (by omega) (by omega) (fun t ht => by have := hts rfl t ht; omega)
          have hs := say0 i0 i1 T ((List.range ts.length).map fun i => Ms.da m p (base + i) (ts.getD i [])) (by simp; try omega)
          simp only [he, sayL_nil] at hs
          simp -dsimp (decide := true) (maxSteps := 1000000) (disch := first | omega | simp (decide := true) only [oncgb0]) only [oncgb1, ↓brun_b, envOf, reduceIte, Nat.reduceEqDiff, Nat.reduceAdd, Nat.reduceSub, Nat.reduceMul, Nat.reduceBEq, Nat.reduceLeDiff, Nat.reduceLT, Int.reduceToNat, rho]
          refine SemOps.callw [13, 14, 15] cal.f100 (hr) rfl rfl rfl (by simp -dsimp (decide := true) (maxSteps := 1000000) (disch := first | omega | simp (decide := true) only [oncgb0]) only [oncgb2, ↓brun_b, envOf, reduceIte, Nat.reduceEqDiff, Nat.reduceAdd, Nat.reduceSub, Nat.reduceMul, Nat.reduceBEq, Nat.reduceLeDiff, Nat.reduceLT, Int.reduceToNat, rho, frz1, ↓reduceIte]) rfl (by simp -dsimp (decide := true) (maxSteps := 1000000) (disch := first | omega | simp (decide := true) only [oncgb0]) only [oncgb2, ↓brun_b, envOf, reduceIte, Nat.reduceEqDiff, Nat.reduceAdd, Nat.reduceSub, Nat.reduceMul, Nat.reduceBEq, Nat.reduceLeDiff, Nat.reduceLT, Int.reduceToNat, rho, frz1, ↓reduceIte]) (by simp -dsimp (decide := true) (maxSteps := 1000000) (disch := first | omega | simp (decide := true) only [oncgb0]) only [oncgc2, ↓brun_b, envOf, reduceIte, Nat.reduceEqDiff, Nat.reduceAdd, Nat.reduceSub, Nat.reduceMul, Nat.reduceBEq, Nat.reduceLeDiff, Nat.reduceLT, Int.reduceToNat]) ?_
          refine SemOps.go (k := 1000) ?_
          simp -dsimp (decide := true) (maxSteps := 1000000) (disch := first | omega | simp (decide := true) only [oncgb0]) only [oncgb1, ↓brun_b, envOf, reduceIte, Nat.reduceEqDiff, Nat.reduceAdd, Nat.reduceSub, Nat.reduceMul, Nat.reduceBEq, Nat.reduceLeDiff, Nat.reduceLT, Int.reduceToNat, rho]
          refine SemOps.frz (d := 74) (frows (((List.range ts.length).map fun i => Ms.da m p (base + i) (ts.getD i [])).map Ms.frm)) rfl rfl htl (by omega) (tickL_ent m p base ts) ?_
          refine SemOps.callw [0, 13, 14, 15, 16, 17, 18, 19, 20, 21, 22, 23, 24] cal.f134 (hs) rfl rfl rfl (by simp -dsimp (decide := true) (maxSteps := 1000000) (disch := first | omega | simp (decide := true) only [oncgb0]) only [oncgb4, ↓brun_b, envOf, reduceIte, Nat.reduceEqDiff, Nat.reduceAdd, Nat.reduceSub, Nat.reduceMul, Nat.reduceBEq, Nat.reduceLeDiff, Nat.reduceLT, Int.reduceToNat, rho, bsl, List.map_cons, List.map_nil, frz1, ↓reduceIte]) rfl (by simp -dsimp (decide := true) (maxSteps := 1000000) (disch := first | omega | simp (decide := true) only [oncgb0]) only [oncgb4, ↓brun_b, envOf, reduceIte, Nat.reduceEqDiff, Nat.reduceAdd, Nat.reduceSub, Nat.reduceMul, Nat.reduceBEq, Nat.reduceLeDiff, Nat.reduceLT, Int.reduceToNat, rho, bsl, List.map_cons, List.map_nil, frz1, ↓reduceIte]) (by simp -dsimp (decide := true) (maxSteps := 1000000) (disch := first | omega | simp (decide := true) only [oncgb0]) only [oncgc2, ↓brun_b, envOf, reduceIte, Nat.reduceEqDiff, Nat.reduceAdd, Nat.reduceSub, Nat.reduceMul, Nat.reduceBEq, Nat.reduceLeDiff, Nat.reduceLT, Int.reduceToNat]) ?_
          refine SemOps.go (k := 1000) ?_
          simp -dsimp (decide := true) (maxSteps := 1000000) (disch := first | omega | simp (decide := true) only [oncgb0]) only [oncgb1, ↓brun_b, envOf, reduceIte, Nat.reduceEqDiff, Nat.reduceAdd, Nat.reduceSub, Nat.reduceMul, Nat.reduceBEq, Nat.reduceLeDiff, Nat.reduceLT, Int.reduceToNat, rho]
          refine SQ.fin (SQ.runL (rs := []) [0, 1, 2, 3, 4, 5, 6, 7, 8, 9, 10, 11, 12, 13, 14, 15, 16, 17, 18, 19, 27, 21, 22, 23, 24] _ _ rfl (And.intro rfl rfl) (by decide) rfl rfl ?_ ?_)
          · simp -dsimp (decide := true) (maxSteps := 1000000) (disch := first | omega | simp (decide := true) only [oncgb0]) only [oncgb2, ↓brun_b, envOf, reduceIte, Nat.reduceEqDiff, Nat.reduceAdd, Nat.reduceSub, Nat.reduceMul, Nat.reduceBEq, Nat.reduceLeDiff, Nat.reduceLT, Int.reduceToNat, rho, hz, hzz, frz1, ↓reduceIte]
          · simp -dsimp (decide := true) (maxSteps := 1000000) (disch := first | omega | simp (decide := true) only [oncgb0]) only [oncgb2, ↓brun_b, envOf, reduceIte, Nat.reduceEqDiff, Nat.reduceAdd, Nat.reduceSub, Nat.reduceMul, Nat.reduceBEq, Nat.reduceLeDiff, Nat.reduceLT, Int.reduceToNat, rho, hz, hzz, frz1, ↓reduceIte]
            exact Ent.eq rfl
    have hk2 : ¬ kd = 2 := by simpa using h2
    simp -dsimp (decide := true) (maxSteps := 1000000) (disch := first | omega | simp (decide := true) only [oncgb0]) only [oncgb1, ↓brun_b, envOf, reduceIte, Nat.reduceEqDiff, Nat.reduceAdd, Nat.reduceSub, Nat.reduceMul, Nat.reduceBEq, Nat.reduceLeDiff, Nat.reduceLT, Int.reduceToNat, rho]
    refine SCond.split (fun h3 => ?_) (fun h3 => ?_)
    · have hk3 : kd = 3 := by simpa using h3
      have hT2 : T' = sendT T false tx := by rw [hT, playT, if_neg hk0, if_neg hk1, if_neg hk2, if_pos hk3]
      clear hT
      generalize he : T.e false = e at *
      obtain ⟨up, op, m, p, pid, base, got, ts⟩ := e
      simp only at *
      cases op
      · rw [sendT] at hT2
        simp only [he, true_or, if_true] at hT2
        subst hT2
        simp only [he]
        have hp := pair_calls i0 pid up false (nI m) (m : Int) (nI p) (p : Int) (base : Int) (got : Int) ts
        simp -dsimp (decide := true) (maxSteps := 1000000) (disch := first | omega | simp (decide := true) only [oncgb0]) only [oncgb1, ↓brun_b, envOf, reduceIte, Nat.reduceEqDiff, Nat.reduceAdd, Nat.reduceSub, Nat.reduceMul, Nat.reduceBEq, Nat.reduceLeDiff, Nat.reduceLT, Int.reduceToNat, rho]
        refine SemOps.callw [13, 14, 15] cal.f109 (hp) rfl rfl rfl (by simp -dsimp (decide := true) (maxSteps := 1000000) (disch := first | omega | simp (decide := true) only [oncgb0]) only [oncgb2, ↓brun_b, envOf, reduceIte, Nat.reduceEqDiff, Nat.reduceAdd, Nat.reduceSub, Nat.reduceMul, Nat.reduceBEq, Nat.reduceLeDiff, Nat.reduceLT, Int.reduceToNat, rho, frz1, ↓reduceIte]) rfl (by simp -dsimp (decide := true) (maxSteps := 1000000) (disch := first | omega | simp (decide := true) only [oncgb0]) only [oncgb2, ↓brun_b, envOf, reduceIte, Nat.reduceEqDiff, Nat.reduceAdd, Nat.reduceSub, Nat.reduceMul, Nat.reduceBEq, Nat.reduceLeDiff, Nat.reduceLT, Int.reduceToNat, rho, frz1, ↓reduceIte]) (by simp -dsimp (decide := true) (maxSteps := 1000000) (disch := first | omega | simp (decide := true) only [oncgb0]) only [oncgc2, ↓brun_b, envOf, reduceIte, Nat.reduceEqDiff, Nat.reduceAdd, Nat.reduceSub, Nat.reduceMul, Nat.reduceBEq, Nat.reduceLeDiff, Nat.reduceLT, Int.reduceToNat]) ?_
        refine SemOps.go (k := 1000) ?_
        simp -dsimp (decide := true) (maxSteps := 1000000) (disch := first | omega | simp (decide := true) only [oncgb0]) only [oncgb1, ↓brun_b, envOf, reduceIte, Nat.reduceEqDiff, Nat.reduceAdd, Nat.reduceSub, Nat.reduceMul, Nat.reduceBEq, Nat.reduceLeDiff, Nat.reduceLT, Int.reduceToNat, rho]
        have hr := sendDown_calls i0 pid up (nI m) (m : Int) (nI p) (p : Int) (base : Int) (got : Int) ts tx
        refine Sem.draw' (by kernel_rfl) (.one 0 (.one 1 (.one 2 (.one 3 (.one 4 (.one 5 (.one 6 (.one 7 (.alt 8 (.one 9 (.one 10 (.one 11 (.alt 12 (.alt 13 (.one 14 .done) .non) .non)))) (.alt 12 (.alt 8 (.one 9 (.one 10 (.one 11 (.alt 13 (.one 14 .done) .non)))) .non) .non)))))))))) [] (by kernel_rfl) (fun G ff hG hf => ?_)
        simp (decide := true) only [oncgb5, Nat.reduceAdd] at hG ⊢
        simp -dsimp (decide := true) (maxSteps := 1000000) (disch := first | omega | simp (decide := true) only [oncgb0]) only [oncgb1, ↓brun_b, envOf, reduceIte, Nat.reduceEqDiff, Nat.reduceAdd, Nat.reduceSub, Nat.reduceMul, Nat.reduceBEq, Nat.reduceLeDiff, Nat.reduceLT, Int.reduceToNat, rho, hG]
        (repeat' refine And.intro ?_ ?_)
        all_goals
          refine OpSem.callw [13, 14, 15] cal.f102 (hr) rfl rfl (by simp -dsimp (decide := true) (maxSteps := 1000000) (disch := first | omega | simp (decide := true) only [oncgb0]) only [oncgb2, ↓brun_b, envOf, reduceIte, Nat.reduceEqDiff, Nat.reduceAdd, Nat.reduceSub, Nat.reduceMul, Nat.reduceBEq, Nat.reduceLeDiff, Nat.reduceLT, Int.reduceToNat, rho, frz1, ↓reduceIte]) rfl (by simp -dsimp (decide := true) (maxSteps := 1000000) (disch := first | omega | simp (decide := true) only [oncgb0]) only [oncgb2, ↓brun_b, envOf, reduceIte, Nat.reduceEqDiff, Nat.reduceAdd, Nat.reduceSub, Nat.reduceMul, Nat.reduceBEq, Nat.reduceLeDiff, Nat.reduceLT, Int.reduceToNat, rho, frz1, ↓reduceIte]) (by simp -dsimp (decide := true) (maxSteps := 1000000) (disch := first | omega | simp (decide := true) only [oncgb0]) only [oncgc2, ↓brun_b, envOf, reduceIte, Nat.reduceEqDiff, Nat.reduceAdd, Nat.reduceSub, Nat.reduceMul, Nat.reduceBEq, Nat.reduceLeDiff, Nat.reduceLT, Int.reduceToNat]) ?_
          simp -dsimp (decide := true) (maxSteps := 1000000) (disch := first | omega | simp (decide := true) only [oncgb0]) only [oncgb1, ↓brun_b, envOf, reduceIte, Nat.reduceEqDiff, Nat.reduceAdd, Nat.reduceSub, Nat.reduceMul, Nat.reduceBEq, Nat.reduceLeDiff, Nat.reduceLT, Int.reduceToNat, rho, hG]
          (repeat' refine And.intro ?_ ?_)
          all_goals
            refine hf _ (Sem.go (k := 1000) ?_)
            simp (decide := true) only [back_mk, backL_in, backL_row, backL_none, backL_nil, Nat.zero_add, Nat.reduceAdd]
            simp -dsimp (decide := true) (maxSteps := 1000000) (disch := first | omega | simp (decide := true) only [oncgb0]) only [oncgb1, ↓brun_b, envOf, reduceIte, Nat.reduceEqDiff, Nat.reduceAdd, Nat.reduceSub, Nat.reduceMul, Nat.reduceBEq, Nat.reduceLeDiff, Nat.reduceLT, Int.reduceToNat, rho]
            refine SQ.fin (SQ.runL (rs := []) [0, 1, 2, 3, 4, 5, 6, 7, 8, 9, 10, 11, 12, 13, 14, 15, 16, 17, 18, 19, 20, 21, 22, 23, 24] _ _ rfl (And.intro rfl rfl) (by decide) rfl rfl ?_ ?_)
            · simp -dsimp (decide := true) (maxSteps := 1000000) (disch := first | omega | simp (decide := true) only [oncgb0]) only [oncgb2, ↓brun_b, envOf, reduceIte, Nat.reduceEqDiff, Nat.reduceAdd, Nat.reduceSub, Nat.reduceMul, Nat.reduceBEq, Nat.reduceLeDiff, Nat.reduceLT, Int.reduceToNat, rho, hz, hzz, frz1, ↓reduceIte]
            · simp -dsimp (decide := true) (maxSteps := 1000000) (disch := first | omega | simp (decide := true) only [oncgb0]) only [oncgb2, ↓brun_b, envOf, reduceIte, Nat.reduceEqDiff, Nat.reduceAdd, Nat.reduceSub, Nat.reduceMul, Nat.reduceBEq, Nat.reduceLeDiff, Nat.reduceLT, Int.reduceToNat, rho, hz, hzz, frz1, ↓reduceIte]
              exact Ent.eq rfl
      · by_cases hcl : tx.length ≤ 4096
        · rw [sendT] at hT2
          simp only [he] at hT2
          rw [if_neg (by simp; omega)] at hT2
          subst hT2
          simp only [upd_ff, upd_tt, upd_ft, upd_tf, Bool.not_false, Bool.not_true, Tk.say, he]
          have hp := pair_calls i0 pid up true (nI m) (m : Int) (nI p) (p : Int) (base : Int) (got : Int) ts
          simp -dsimp (decide := true) (maxSteps := 1000000) (disch := first | omega | simp (decide := true) only [oncgb0]) only [oncgb1, ↓brun_b, envOf, reduceIte, Nat.reduceEqDiff, Nat.reduceAdd, Nat.reduceSub, Nat.reduceMul, Nat.reduceBEq, Nat.reduceLeDiff, Nat.reduceLT, Int.reduceToNat, rho]
          refine SemOps.callw [13, 14, 15] cal.f109 (hp) rfl rfl rfl (by simp -dsimp (decide := true) (maxSteps := 1000000) (disch := first | omega | simp (decide := true) only [oncgb0]) only [oncgb2, ↓brun_b, envOf, reduceIte, Nat.reduceEqDiff, Nat.reduceAdd, Nat.reduceSub, Nat.reduceMul, Nat.reduceBEq, Nat.reduceLeDiff, Nat.reduceLT, Int.reduceToNat, rho, frz1, ↓reduceIte]) rfl (by simp -dsimp (decide := true) (maxSteps := 1000000) (disch := first | omega | simp (decide := true) only [oncgb0]) only [oncgb2, ↓brun_b, envOf, reduceIte, Nat.reduceEqDiff, Nat.reduceAdd, Nat.reduceSub, Nat.reduceMul, Nat.reduceBEq, Nat.reduceLeDiff, Nat.reduceLT, Int.reduceToNat, rho, frz1, ↓reduceIte]) (by simp -dsimp (decide := true) (maxSteps := 1000000) (disch := first | omega | simp (decide := true) only [oncgb0]) only [oncgc2, ↓brun_b, envOf, reduceIte, Nat.reduceEqDiff, Nat.reduceAdd, Nat.reduceSub, Nat.reduceMul, Nat.reduceBEq, Nat.reduceLeDiff, Nat.reduceLT, Int.reduceToNat]) ?_
          refine SemOps.go (k := 1000) ?_
          simp -dsimp (decide := true) (maxSteps := 1000000) (disch := first | omega | simp (decide := true) only [oncgb0]) only [oncgb1, ↓brun_b, envOf, reduceIte, Nat.reduceEqDiff, Nat.reduceAdd, Nat.reduceSub, Nat.reduceMul, Nat.reduceBEq, Nat.reduceLeDiff, Nat.reduceLT, Int.reduceToNat, rho]
          have hr := sendOpen_calls i0 pid up (nI m) (m : Int) (nI p) (p : Int) (got : Int) base ts tx hcl (by omega) (by omega) ((base + ts.length : Nat) : Int) rfl
          have hs := say0 i0 i1 { T with e := upd T.e false ⟨up, true, m, p, pid, base, got, ts ++ [tx]⟩, s := upd T.s false (T.s false ++ [⟨m, p, tx⟩]) } [.da m p (base + ts.length) tx] (by simp)
          have e1 : (ts ++ [tx]).length = ts.length + 1 := by simp
          have e2 : (T.s false ++ [(⟨m, p, tx⟩ : Snt)]).length = (T.s false).length + 1 := by simp
          simp only [upd_ff, upd_tt, upd_ft, upd_tf, Bool.not_false, Bool.not_true, Tk.say, e1, e2] at hs
          refine Sem.cutW [_] ⟨163, 13, [(0, .ptr 0 0 0), (3, .ptr 25 0 0), (4, .v (.int .i64 0)), (7, .ptr 26 0 0), (8, .ptr 27 0 0), (9, .ptr 29 0 0), (10, .v (.int .i64 0))], [some (.row ⟨10, 1, true, 130, fun _ => [.ptr 13 0 0, .ptr 16 0 0, .slc 19 0 (T.w false).length, .slc 20 0 (T.w true).length, .v (.int .i64 ((T.c false) : Int)), .v (.int .i64 ((T.c true) : Int)), .slc 21 0 (T.s false).length, .slc 22 0 (T.s true).length, .slc 23 0 (T.g false).length, .slc 24 0 (T.g true).length]⟩),
                none,
                none,
                none,
                none,
                none,
                none,
                none,
                none,
                none,
                none,
                none,
                none,
                some (.row ⟨39, 1, true, 204, fun _ => EC.c ⟨i0, .v (.bool (⟨up, true, m, p, pid, base, got, ts⟩ : En).up), .v (.bool (⟨up, true, m, p, pid, base, got, ts⟩ : En).op), .v (.int .i64 (nI (⟨up, true, m, p, pid, base, got, ts⟩ : En).m)), .v (.int .i64 ((⟨up, true, m, p, pid, base, got, ts⟩ : En).m : Int)), .v (.int .i64 (nI (⟨up, true, m, p, pid, base, got, ts⟩ : En).p)), .v (.int .i64 ((⟨up, true, m, p, pid, base, got, ts⟩ : En).p : Int)), (⟨up, true, m, p, pid, base, got, ts⟩ : En).pid, .ptr 14 0 0⟩⟩),
                some (.row ⟨3, 1, true, 197, fun _ => [.v (.int .i64 (base : Int)), .slc 28 0 (ts.length + 1), .v (.int .i64 (got : Int))]⟩),
                none,
                some (.row ⟨39, 1, true, 204, fun _ => EC.c ⟨i1, .v (.bool (T.e true).up), .v (.bool (T.e true).op), .v (.int .i64 (nI (T.e true).m)), .v (.int .i64 ((T.e true).m : Int)), .v (.int .i64 (nI (T.e true).p)), .v (.int .i64 ((T.e true).p : Int)), (T.e true).pid, .ptr 17 0 0⟩⟩),
                some (.row ⟨3, 1, true, 197, fun _ => [.v (.int .i64 ((T.e true).base : Int)), .slc 18 0 (T.e true).ts.length, .v (.int .i64 ((T.e true).got : Int))]⟩),
                some (.row ⟨1, (T.e true).ts.length, true, 35, trow (T.e true).ts⟩),
                some (.row ⟨95, (T.w false).length, true, 151, wrow (T.w false)⟩),
                some (.row ⟨95, (T.w true).length, true, 151, wrow (T.w true)⟩),
                some (.row ⟨5, (T.s false).length, true, 137, srow (T.s false)⟩),
                some (.row ⟨5, (T.s true).length, true, 137, srow (T.s true)⟩),
                some (.row ⟨5, (T.g false).length, true, 137, srow (T.g false)⟩),
                some (.row ⟨5, (T.g true).length, true, 137, srow (T.g true)⟩),
                some (.row ⟨4, 1, true, 132, fun _ => [.v (.int .i64 kd), .v (.int .i64 sd), .v (.int .i64 ii), bsl tx]⟩),
                some (.row ⟨2, 1, true, 135, fun _ => [.v (.int .i64 (nI m)), .v (.int .i64 (m : Int))]⟩),
                some (.row ⟨2, 1, true, 135, fun _ => [.v (.int .i64 (nI p)), .v (.int .i64 (p : Int))]⟩),
                some (.row ⟨1, ts.length + 1, true, 35, trow (ts ++ [tx])⟩),
                some (.row ⟨95, 1, true, 151, fun _ => FC.c { zF with kind := .v (.int .i64 2), fi := .v (.int .i64 (nI m)), fn := .v (.int .i64 (m : Int)), ti := .v (.int .i64 (nI p)), tn := .v (.int .i64 (p : Int)), n := .v (.int .i64 ((base + ts.length : Nat) : Int)), tx := bsl tx }⟩)]⟩ ?_ ?_
          · refine Sem.draw' (by kernel_rfl) (.one 0 (.one 1 (.one 2 (.one 3 (.one 4 (.one 5 (.one 6 (.one 7 (.alt 8 (.one 9 (.one 10 (.one 11 (.alt 12 (.alt 13 (.one 14 .done) .non) .non)))) (.alt 12 (.alt 8 (.one 9 (.one 10 (.one 11 (.alt 13 (.one 14 .done) .non)))) .non) .non)))))))))) [14, 15] (by kernel_rfl) (fun G ff hG hf => ?_)
            simp (decide := true) only [oncgb5, Nat.reduceAdd] at hG ⊢
            simp -dsimp (decide := true) (maxSteps := 1000000) (disch := first | omega | simp (decide := true) only [oncgb0]) only [oncgb1, ↓brun_b, envOf, reduceIte, Nat.reduceEqDiff, Nat.reduceAdd, Nat.reduceSub, Nat.reduceMul, Nat.reduceBEq, Nat.reduceLeDiff, Nat.reduceLT, Int.reduceToNat, rho, hG]
            (repeat' refine And.intro ?_ ?_)
            all_goals
              refine OpSem.callw [13, 14, 15] cal.f102 (hr) rfl rfl (by simp -dsimp (decide := true) (maxSteps := 1000000) (disch := first | omega | simp (decide := true) only [oncgb0]) only [oncgb2, ↓brun_b, envOf, reduceIte, Nat.reduceEqDiff, Nat.reduceAdd, Nat.reduceSub, Nat.reduceMul, Nat.reduceBEq, Nat.reduceLeDiff, Nat.reduceLT, Int.reduceToNat, rho, frz1, ↓reduceIte]) rfl (by simp -dsimp (decide := true) (maxSteps := 1000000) (disch := first | omega | simp (decide := true) only [oncgb0]) only [oncgb2, ↓brun_b, envOf, reduceIte, Nat.reduceEqDiff, Nat.reduceAdd, Nat.reduceSub, Nat.reduceMul, Nat.reduceBEq, Nat.reduceLeDiff, Nat.reduceLT, Int.reduceToNat, rho, frz1, ↓reduceIte]) (by simp -dsimp (decide := true) (maxSteps := 1000000) (disch := first | omega | simp (decide := true) only [oncgb0]) only [oncgc2, ↓brun_b, envOf, reduceIte, Nat.reduceEqDiff, Nat.reduceAdd, Nat.reduceSub, Nat.reduceMul, Nat.reduceBEq, Nat.reduceLeDiff, Nat.reduceLT, Int.reduceToNat]) ?_
              simp -dsimp (decide := true) (maxSteps := 1000000) (disch := first | omega | simp (decide := true) only [oncgb0]) only [oncgb1, ↓brun_b, envOf, reduceIte, Nat.reduceEqDiff, Nat.reduceAdd, Nat.reduceSub, Nat.reduceMul, Nat.reduceBEq, Nat.reduceLeDiff, Nat.reduceLT, Int.reduceToNat, rho, hG]
              (repeat' refine And.intro ?_ ?_)
              all_goals
                refine hf _ (Sem.go (k := 1000) ?_)
                simp (decide := true) only [back_mk, backL_in, backL_row, backL_none, backL_nil, Nat.zero_add, Nat.reduceAdd]
                simp only [lapp_nil]
                simp -dsimp (decide := true) (maxSteps := 1000000) (disch := first | omega | simp (decide := true) only [oncgb0]) only [oncgb1, ↓brun_b, envOf, reduceIte, Nat.reduceEqDiff, Nat.reduceAdd, Nat.reduceSub, Nat.reduceMul, Nat.reduceBEq, Nat.reduceLeDiff, Nat.reduceLT, Int.reduceToNat, rho]
                first
                | (refine ⟨[0, 1, 2, 3, 4, 5, 6, 7, 8, 9, 10, 11, 12, 13, 14, 15, 16, 17, 18, 19, 20, 21, 22, 23, 24, 25, 26, 27, 28, 29], ?_⟩
                   (refine Wk.ofC ?_; simp -dsimp (decide := true) (maxSteps := 1000000) (disch := first | omega | simp (decide := true) only [oncgb0]) only [oncgb6, ↓brun_b, envOf, reduceIte, Nat.reduceEqDiff, Nat.reduceAdd, Nat.reduceSub, Nat.reduceMul, Nat.reduceBEq, Nat.reduceLeDiff, Nat.reduceLT, Int.reduceToNat, rho, frz1, ↓reduceIte])
                   done)
                | (refine ⟨[0, 1, 2, 3, 4, 5, 6, 7, 8, 9, 10, 11, 12, 13, 14, 15, 16, 17, 18, 19, 20, 21, 22, 23, 24, 25, 26, 27, 29, 28], ?_⟩
                   (refine Wk.ofC ?_; simp -dsimp (decide := true) (maxSteps := 1000000) (disch := first | omega | simp (decide := true) only [oncgb0]) only [oncgb6, ↓brun_b, envOf, reduceIte, Nat.reduceEqDiff, Nat.reduceAdd, Nat.reduceSub, Nat.reduceMul, Nat.reduceBEq, Nat.reduceLeDiff, Nat.reduceLT, Int.reduceToNat, rho, frz1, ↓reduceIte])
                   done)
          · refine Sem.go (k := 1000) ?_
            simp -dsimp (decide := true) (maxSteps := 1000000) (disch := first | omega | simp (decide := true) only [oncgb0]) only [oncgb1, ↓brun_b, envOf, reduceIte, Nat.reduceEqDiff, Nat.reduceAdd, Nat.reduceSub, Nat.reduceMul, Nat.reduceBEq, Nat.reduceLeDiff, Nat.reduceLT, Int.reduceToNat, rho]
            refine Sem.draw' (by kernel_rfl) (.one 0 (.one 1 (.one 2 (.one 3 (.one 4 (.one 5 (.one 6 (.one 8 (.one 9 (.one 10 (.one 11 (.one 12 (.one 13 (.one 16 (.one 17 (.alt 7 (.alt 14 (.alt 15 (.one 18 (.alt 19 .done .non)) .non) .non) (.alt 14 (.alt 7 (.alt 15 (.one 18 (.alt 19 .done .non)) .non) .non) .non))))))))))))))))) [0, 21] (by kernel_rfl) (fun G ff hG hf => ?_)
            simp (decide := true) only [oncgb5, Nat.reduceAdd] at hG ⊢
            simp -dsimp (decide := true) (maxSteps := 1000000) (disch := first | omega | simp (decide := true) only [oncgb0]) only [oncgb7, ↓brun_b, envOf, reduceIte, Nat.reduceEqDiff, Nat.reduceAdd, Nat.reduceSub, Nat.reduceMul, Nat.reduceBEq, Nat.reduceLeDiff, Nat.reduceLT, Int.reduceToNat, rho, hG, sapp1_sl el137]
            (repeat' refine And.intro ?_ ?_)
            all_goals try omega
            all_goals
              refine hf _ (Sem.go (k := 1000) ?_)
              simp (decide := true) only [back_mk, backL_in, backL_row, backL_none, backL_nil, Nat.zero_add, Nat.reduceAdd]
              simp -dsimp (decide := true) (maxSteps := 1000000) (disch := first | omega | simp (decide := true) only [oncgb0]) only [oncgb8, ↓brun_b, envOf, reduceIte, Nat.reduceEqDiff, Nat.reduceAdd, Nat.reduceSub, Nat.reduceMul, Nat.reduceBEq, Nat.reduceLeDiff, Nat.reduceLT, Int.reduceToNat, rho]
              refine SemOps.frz (d := 124) (frows ([Ms.da m p (base + ts.length) tx].map Ms.frm)) rfl rfl rfl (Nat.le_refl 1) (frows1_ent2 _ (daF_ent _ _ _ _ _ _)) ?_
              refine SemOps.weakenM (s' := ⟨163, 13, [(121, .ptr 0 0 0), (122, .v (.int .i64 0)), (124, .rsl 95 (frows ([Ms.da m p (base + ts.length) tx].map Ms.frm)))], [some (.row ⟨10, 1, true, 130, fun _ => [.ptr 13 0 0, .ptr 16 0 0, .slc 19 0 (T.w false).length, .slc 20 0 (T.w true).length, .v (.int .i64 ((T.c false) : Int)), .v (.int .i64 ((T.c true) : Int)), .slc 27 0 (T.s false ++ [(⟨m, p, tx⟩ : Snt)]).length, .slc 22 0 (T.s true).length, .slc 23 0 (T.g false).length, .slc 24 0 (T.g true).length]⟩),
                none,
                none,
                none,
                none,
                none,
                none,
                none,
                none,
                none,
                none,
                none,
                none,
                some (.row ⟨39, 1, true, 204, fun _ => EC.c ⟨i0, .v (.bool (⟨up, true, m, p, pid, base, got, ts⟩ : En).up), .v (.bool (⟨up, true, m, p, pid, base, got, ts⟩ : En).op), .v (.int .i64 (nI (⟨up, true, m, p, pid, base, got, ts⟩ : En).m)), .v (.int .i64 ((⟨up, true, m, p, pid, base, got, ts⟩ : En).m : Int)), .v (.int .i64 (nI (⟨up, true, m, p, pid, base, got, ts⟩ : En).p)), .v (.int .i64 ((⟨up, true, m, p, pid, base, got, ts⟩ : En).p : Int)), (⟨up, true, m, p, pid, base, got, ts⟩ : En).pid, .ptr 14 0 0⟩⟩),
                some (.row ⟨3, 1, true, 197, fun _ => [.v (.int .i64 (base : Int)), .slc 26 0 (ts.length + 1), .v (.int .i64 (got : Int))]⟩),
                none,
                some (.row ⟨39, 1, true, 204, fun _ => EC.c ⟨i1, .v (.bool (T.e true).up), .v (.bool (T.e true).op), .v (.int .i64 (nI (T.e true).m)), .v (.int .i64 ((T.e true).m : Int)), .v (.int .i64 (nI (T.e true).p)), .v (.int .i64 ((T.e true).p : Int)), (T.e true).pid, .ptr 17 0 0⟩⟩),
                some (.row ⟨3, 1, true, 197, fun _ => [.v (.int .i64 ((T.e true).base : Int)), .slc 18 0 (T.e true).ts.length, .v (.int .i64 ((T.e true).got : Int))]⟩),
                some (.row ⟨1, (T.e true).ts.length, true, 35, trow (T.e true).ts⟩),
                some (.row ⟨95, (T.w false).length, true, 151, wrow (T.w false)⟩),
                some (.row ⟨95, (T.w true).length, true, 151, wrow (T.w true)⟩),
                none,
                some (.row ⟨5, (T.s true).length, true, 137, srow (T.s true)⟩),
                some (.row ⟨5, (T.g false).length, true, 137, srow (T.g false)⟩),
                some (.row ⟨5, (T.g true).length, true, 137, srow (T.g true)⟩),
                some (.row ⟨4, 1, true, 132, fun _ => [.v (.int .i64 kd), .v (.int .i64 sd), .v (.int .i64 ii), bsl tx]⟩),
                some (.row ⟨1, ts.length + 1, true, 35, trow (ts ++ [tx])⟩),
                some (.row ⟨5, (T.s false ++ [(⟨m, p, tx⟩ : Snt)]).length, true, 137, srow (T.s false ++ [(⟨m, p, tx⟩ : Snt)])⟩)]⟩) [0, 1, 2, 3, 4, 5, 6, 7, 8, 9, 10, 11, 12, 13, 14, 15, 16, 17, 18, 19, 20, 21, 22, 23, 24, 25, 28, 31] ⟨rfl, rfl, rfl, rfl, rfl, rfl, ?_, ?_⟩ ?_
              · simp -dsimp (decide := true) (maxSteps := 1000000) (disch := first | omega | simp (decide := true) only [oncgb0]) only [oncgb2, ↓brun_b, envOf, reduceIte, Nat.reduceEqDiff, Nat.reduceAdd, Nat.reduceSub, Nat.reduceMul, Nat.reduceBEq, Nat.reduceLeDiff, Nat.reduceLT, Int.reduceToNat, rho, frz1, ↓reduceIte]
              · simp -dsimp (decide := true) (maxSteps := 1000000) (disch := first | omega | simp (decide := true) only [oncgb0]) only [oncgb2, ↓brun_b, envOf, reduceIte, Nat.reduceEqDiff, Nat.reduceAdd, Nat.reduceSub, Nat.reduceMul, Nat.reduceBEq, Nat.reduceLeDiff, Nat.reduceLT, Int.reduceToNat, rho, e2, frz1, ↓reduceIte]
                exact fun e he => app_srow _ ⟨m, p, tx⟩ e he
              refine SemOps.callw [0, 13, 14, 26, 16, 17, 18, 19, 20, 27, 22, 23, 24] cal.f134 (hs) rfl rfl rfl (by simp -dsimp (decide := true) (maxSteps := 1000000) (disch := first | omega | simp (decide := true) only [oncgb0]) only [oncgb2, ↓brun_b, envOf, reduceIte, Nat.reduceEqDiff, Nat.reduceAdd, Nat.reduceSub, Nat.reduceMul, Nat.reduceBEq, Nat.reduceLeDiff, Nat.reduceLT, Int.reduceToNat, rho, e2, frz1, ↓reduceIte]) rfl (by simp -dsimp (decide := true) (maxSteps := 1000000) (disch := first | omega | simp (decide := true) only [oncgb0]) only [oncgb2, ↓brun_b, envOf, reduceIte, Nat.reduceEqDiff, Nat.reduceAdd, Nat.reduceSub, Nat.reduceMul, Nat.reduceBEq, Nat.reduceLeDiff, Nat.reduceLT, Int.reduceToNat, rho, e2, frz1, ↓reduceIte]) (by simp -dsimp (decide := true) (maxSteps := 1000000) (disch := first | omega | simp (decide := true) only [oncgb0]) only [oncgc2, ↓brun_b, envOf, reduceIte, Nat.reduceEqDiff, Nat.reduceAdd, Nat.reduceSub, Nat.reduceMul, Nat.reduceBEq, Nat.reduceLeDiff, Nat.reduceLT, Int.reduceToNat]) ?_
              refine SemOps.go (k := 1000) ?_
              simp -dsimp (decide := true) (maxSteps := 1000000) (disch := first | omega | simp (decide := true) only [oncgb0]) only [oncgb1, ↓brun_b, envOf, reduceIte, Nat.reduceEqDiff, Nat.reduceAdd, Nat.reduceSub, Nat.reduceMul, Nat.reduceBEq, Nat.reduceLeDiff, Nat.reduceLT, Int.reduceToNat, rho, e2]
              refine SQ.fin (SQ.runL (rs := []) [0, 1, 2, 3, 4, 5, 6, 7, 8, 9, 10, 11, 12, 13, 14, 26, 16, 17, 18, 19, 28, 27, 22, 23, 24] _ _ rfl (And.intro rfl rfl) (by decide) rfl rfl ?_ ?_)
              · simp -dsimp (decide := true) (maxSteps := 1000000) (disch := first | omega | simp (decide := true) only [oncgb0]) only [oncgb2, ↓brun_b, envOf, reduceIte, Nat.reduceEqDiff, Nat.reduceAdd, Nat.reduceSub, Nat.reduceMul, Nat.reduceBEq, Nat.reduceLeDiff, Nat.reduceLT, Int.reduceToNat, rho, hz, hzz, e1, e2, frz1, ↓reduceIte]
              · simp -dsimp (decide := true) (maxSteps := 1000000) (disch := first | omega | simp (decide := true) only [oncgb0]) only [oncgb2, ↓brun_b, envOf, reduceIte, Nat.reduceEqDiff, Nat.reduceAdd, Nat.reduceSub, Nat.reduceMul, Nat.reduceBEq, Nat.reduceLeDiff, Nat.reduceLT, Int.reduceToNat, rho, hz, hzz, e1, e2, frz1, ↓reduceIte]
                exact Ent.eq rfl
        · rw [sendT] at hT2
          simp only [he] at hT2
          rw [if_pos (by right; omega)] at hT2
          subst hT2
          simp only [he]
          have hp := pair_calls i0 pid up true (nI m) (m : Int) (nI p) (p : Int) (base : Int) (got : Int) ts
          simp -dsimp (decide := true) (maxSteps := 1000000) (disch := first | omega | simp (decide := true) only [oncgb0]) only [oncgb1, ↓brun_b, envOf, reduceIte, Nat.reduceEqDiff, Nat.reduceAdd, Nat.reduceSub, Nat.reduceMul, Nat.reduceBEq, Nat.reduceLeDiff, Nat.reduceLT, Int.reduceToNat, rho]
          refine SemOps.callw [13, 14, 15] cal.f109 (hp) rfl rfl rfl (by simp -dsimp (decide := true) (maxSteps := 1000000) (disch := first | omega | simp (decide := true) only [oncgb0]) only [oncgb2, ↓brun_b, envOf, reduceIte, Nat.reduceEqDiff, Nat.reduceAdd, Nat.reduceSub, Nat.reduceMul, Nat.reduceBEq, Nat.reduceLeDiff, Nat.reduceLT, Int.reduceToNat, rho, frz1, ↓reduceIte]) rfl (by simp -dsimp (decide := true) (maxSteps := 1000000) (disch := first | omega | simp (decide := true) only [oncgb0]) only [oncgb2, ↓brun_b, envOf, reduceIte, Nat.reduceEqDiff, Nat.reduceAdd, Nat.reduceSub, Nat.reduceMul, Nat.reduceBEq, Nat.reduceLeDiff, Nat.reduceLT, Int.reduceToNat, rho, frz1, ↓reduceIte]) (by simp -dsimp (decide := true) (maxSteps := 1000000) (disch := first | omega | simp (decide := true) only [oncgb0]) only [oncgc2, ↓brun_b, envOf, reduceIte, Nat.reduceEqDiff, Nat.reduceAdd, Nat.reduceSub, Nat.reduceMul, Nat.reduceBEq, Nat.reduceLeDiff, Nat.reduceLT, Int.reduceToNat]) ?_
          refine SemOps.go (k := 1000) ?_
          simp -dsimp (decide := true) (maxSteps := 1000000) (disch := first | omega | simp (decide := true) only [oncgb0]) only [oncgb1, ↓brun_b, envOf, reduceIte, Nat.reduceEqDiff, Nat.reduceAdd, Nat.reduceSub, Nat.reduceMul, Nat.reduceBEq, Nat.reduceLeDiff, Nat.reduceLT, Int.reduceToNat, rho]
          have hr := sendLong_calls i0 pid up (nI m) (m : Int) (nI p) (p : Int) (base : Int) (got : Int) ts tx (by omega)
          refine Sem.draw' (by kernel_rfl) (.one 0 (.one 1 (.one 2 (.one 3 (.one 4 (.one 5 (.one 6 (.one 7 (.alt 8 (.one 9 (.one 10 (.one 11 (.alt 12 (.alt 13 (.one 14 .done) .non) .non)))) (.alt 12 (.alt 8 (.one 9 (.one 10 (.one 11 (.alt 13 (.one 14 .done) .non)))) .non) .non)))))))))) [] (by kernel_rfl) (fun G ff hG hf => ?_)
          simp (decide := true) only [oncgb5, Nat.reduceAdd] at hG ⊢
          simp -dsimp (decide := true) (maxSteps := 1000000) (disch := first | omega | simp (decide := true) only [oncgb0]) only [oncgb1, ↓brun_b, envOf, reduceIte, Nat.reduceEqDiff, Nat.reduceAdd, Nat.reduceSub, Nat.reduceMul, Nat.reduceBEq, Nat.reduceLeDiff, Nat.reduceLT, Int.reduceToNat, rho, hG]
          (repeat' refine And.intro ?_ ?_)
          all_goals
            refine OpSem.callw [13, 14, 15] cal.f102 (hr) rfl rfl (by simp -dsimp (decide := true) (maxSteps := 1000000) (disch := first | omega | simp (decide := true) only [oncgb0]) only [oncgb2, ↓brun_b, envOf, reduceIte, Nat.reduceEqDiff, Nat.reduceAdd, Nat.reduceSub, Nat.reduceMul, Nat.reduceBEq, Nat.reduceLeDiff, Nat.reduceLT, Int.reduceToNat, rho, frz1, ↓reduceIte]) rfl (by simp -dsimp (decide := true) (maxSteps := 1000000) (disch := first | omega | simp (decide := true) only [oncgb0]) only [oncgb2, ↓brun_b, envOf, reduceIte, Nat.reduceEqDiff, Nat.reduceAdd, Nat.reduceSub, Nat.reduceMul, Nat.reduceBEq, Nat.reduceLeDiff, Nat.reduceLT, Int.reduceToNat, rho, frz1, ↓reduceIte]) (by simp -dsimp (decide := true) (maxSteps := 1000000) (disch := first | omega | simp (decide := true) only [oncgb0]) only [oncgc2, ↓brun_b, envOf, reduceIte, Nat.reduceEqDiff, Nat.reduceAdd, Nat.reduceSub, Nat.reduceMul, Nat.reduceBEq, Nat.reduceLeDiff, Nat.reduceLT, Int.reduceToNat]) ?_
            simp -dsimp (decide := true) (maxSteps := 1000000) (disch := first | omega | simp (decide := true) only [oncgb0]) only [oncgb1, ↓brun_b, envOf, reduceIte, Nat.reduceEqDiff, Nat.reduceAdd, Nat.reduceSub, Nat.reduceMul, Nat.reduceBEq, Nat.reduceLeDiff, Nat.reduceLT, Int.reduceToNat, rho, hG]
            (repeat' refine And.intro ?_ ?_)
            all_goals
              refine hf _ (Sem.go (k := 1000) ?_)
              simp (decide := true) only [back_mk, backL_in, backL_row, backL_none, backL_nil, Nat.zero_add, Nat.reduceAdd]
              simp -dsimp (decide := true) (maxSteps := 1000000) (disch := first | omega | simp (decide := true) only [oncgb0]) only [oncgb1, ↓brun_b, envOf, reduceIte, Nat.reduceEqDiff, Nat.reduceAdd, Nat.reduceSub, Nat.reduceMul, Nat.reduceBEq, Nat.reduceLeDiff, Nat.reduceLT, Int.reduceToNat, rho]
              refine SQ.fin (SQ.runL (rs := []) [0, 1, 2, 3, 4, 5, 6, 7, 8, 9, 10, 11, 12, 13, 14, 15, 16, 17, 18, 19, 20, 21, 22, 23, 24] _ _ rfl (And.intro rfl rfl) (by decide) rfl rfl ?_ ?_)
              · simp -dsimp (decide := true) (maxSteps := 1000000) (disch := first | omega | simp (decide := true) only [oncgb0]) only [oncgb2, ↓brun_b, envOf, reduceIte, Nat.reduceEqDiff, Nat.reduceAdd, Nat.reduceSub, Nat.reduceMul, Nat.reduceBEq, Nat.reduceLeDiff, Nat.reduceLT, Int.reduceToNat, rho, hz, hzz, frz1, ↓reduceIte]
              · simp -dsimp (decide := true) (maxSteps := 1000000) (disch := first | omega | simp (decide := true) only [oncgb0]) only [oncgb2, ↓brun_b, envOf, reduceIte, Nat.reduceEqDiff, Nat.reduceAdd, Nat.reduceSub, Nat.reduceMul, Nat.reduceBEq, Nat.reduceLeDiff, Nat.reduceLT, Int.reduceToNat, rho, hz, hzz, frz1, ↓reduceIte]
                exact Ent.eq rfl
    have hk3 : ¬ kd = 3 := by simpa using h3
    simp -dsimp (decide := true) (maxSteps := 1000000) (disch := first | omega | simp (decide := true) only [oncgb0]) only [oncgb1, ↓brun_b, envOf, reduceIte, Nat.reduceEqDiff, Nat.reduceAdd, Nat.reduceSub, Nat.reduceMul, Nat.reduceBEq, Nat.reduceLeDiff, Nat.reduceLT, Int.reduceToNat, rho]
    refine SCond.split (fun h4 => ?_) (fun h4 => ?_)
    · have hk4 : kd = 4 := by simpa using h4
      by_cases hn0 : (T.w false).length = 0
      · have hT2 : T' = T := by rw [hT, playT, if_neg hk0, if_neg hk1, if_neg hk2, if_neg hk3, if_pos hn0]
        clear hT
        subst hT2
        rw [if_pos hn0] at hiv
        simp -dsimp (decide := true) (maxSteps := 1000000) (disch := first | omega | simp (decide := true) only [oncgb0]) only [oncgb1, ↓brun_b, envOf, reduceIte, Nat.reduceEqDiff, Nat.reduceAdd, Nat.reduceSub, Nat.reduceMul, Nat.reduceBEq, Nat.reduceLeDiff, Nat.reduceLT, Int.reduceToNat, rho, hiv]
        refine SQ.fin (SQ.runL (rs := []) [0, 1, 2, 3, 4, 5, 6, 7, 8, 9, 10, 11, 12, 13, 14, 15, 16, 17, 18, 19, 20, 21, 22, 23, 24] _ _ rfl (And.intro rfl rfl) (by decide) rfl rfl ?_ ?_)
        · simp -dsimp (decide := true) (maxSteps := 1000000) (disch := first | omega | simp (decide := true) only [oncgb0]) only [oncgb2, ↓brun_b, envOf, reduceIte, Nat.reduceEqDiff, Nat.reduceAdd, Nat.reduceSub, Nat.reduceMul, Nat.reduceBEq, Nat.reduceLeDiff, Nat.reduceLT, Int.reduceToNat, rho, hz, hzz, frz1, ↓reduceIte]
        · simp -dsimp (decide := true) (maxSteps := 1000000) (disch := first | omega | simp (decide := true) only [oncgb0]) only [oncgb2, ↓brun_b, envOf, reduceIte, Nat.reduceEqDiff, Nat.reduceAdd, Nat.reduceSub, Nat.reduceMul, Nat.reduceBEq, Nat.reduceLeDiff, Nat.reduceLT, Int.reduceToNat, rho, hz, hzz, frz1, ↓reduceIte]
          exact Ent.eq rfl
      · rw [if_neg hn0] at hiv
        obtain ⟨hi1, hi2⟩ := hidx (by omega)
        have hT2 : T' = comeT i0 T false ((T.w false).getD i (.ak 0 0 0)) (restOf (T.w false) i) := by rw [hT, playT, if_neg hk0, if_neg hk1, if_neg hk2, if_neg hk3, if_neg hn0, if_pos hk4]
        clear hT
        have hfm : (T.w false).getD i (.ak 0 0 0) ∈ (T.w false) := by
          rw [List.getD_eq_getElem?_getD, List.getElem?_eq_getElem hi2, Option.getD_some]
          exact List.getElem_mem hi2
        generalize hf : (T.w false).getD i (.ak 0 0 0) = f at *
        rcases hx : hear i0 (T.e false) f (T.c false + 1) with ⟨e', ot, out⟩
        have hout : out.length ≤ 1 := by have := hear_len i0 (T.e false) f (T.c false + 1); rw [hx] at this; exact this
        have hc2 := come0 i0 i1 T i f hi2 hf hwl (by omega) (by omega) (by omega) (hda f hfm) (hak f hfm) (by omega) (by omega) e' ot out hx (by omega) _ rfl _ rfl
        rw [comeT_eq] at hT2
        simp only [hx] at hT2
        generalize hcc : (if e'.m = (T.e false).m then T.c false else T.c false + 1) = c' at *
        generalize hgg : addG (T.g false) e'.m e'.p ot = g' at *
        subst hT2
        simp only [upd_ff, upd_tt, upd_ft, upd_tf, Bool.not_false, Bool.not_true, Tk.say]
        simp -dsimp (decide := true) (maxSteps := 1000000) (disch := first | omega | simp (decide := true) only [oncgb0]) only [oncgb1, ↓brun_b, envOf, reduceIte, Nat.reduceEqDiff, Nat.reduceAdd, Nat.reduceSub, Nat.reduceMul, Nat.reduceBEq, Nat.reduceLeDiff, Nat.reduceLT, Int.reduceToNat, rho, hiv, hwiv]
        refine SemOps.callw [0, 13, 14, 15, 16, 17, 18, 19, 20, 21, 22, 23, 24] cal.f135 (hc2) rfl rfl rfl (by simp -dsimp (decide := true) (maxSteps := 1000000) (disch := first | omega | simp (decide := true) only [oncgb0]) only [oncgb2, ↓brun_b, envOf, reduceIte, Nat.reduceEqDiff, Nat.reduceAdd, Nat.reduceSub, Nat.reduceMul, Nat.reduceBEq, Nat.reduceLeDiff, Nat.reduceLT, Int.reduceToNat, rho, frz1, ↓reduceIte]) rfl (by simp -dsimp (decide := true) (maxSteps := 1000000) (disch := first | omega | simp (decide := true) only [oncgb0]) only [oncgb2, ↓brun_b, envOf, reduceIte, Nat.reduceEqDiff, Nat.reduceAdd, Nat.reduceSub, Nat.reduceMul, Nat.reduceBEq, Nat.reduceLeDiff, Nat.reduceLT, Int.reduceToNat, rho, frz1, ↓reduceIte]) (by simp -dsimp (decide := true) (maxSteps := 1000000) (disch := first | omega | simp (decide := true) only [oncgb0]) only [oncgc2, ↓brun_b, envOf, reduceIte, Nat.reduceEqDiff, Nat.reduceAdd, Nat.reduceSub, Nat.reduceMul, Nat.reduceBEq, Nat.reduceLeDiff, Nat.reduceLT, Int.reduceToNat]) ?_
        refine SemOps.go (k := 1000) ?_
        simp -dsimp (decide := true) (maxSteps := 1000000) (disch := first | omega | simp (decide := true) only [oncgb0]) only [oncgb1, ↓brun_b, envOf, reduceIte, Nat.reduceEqDiff, Nat.reduceAdd, Nat.reduceSub, Nat.reduceMul, Nat.reduceBEq, Nat.reduceLeDiff, Nat.reduceLT, Int.reduceToNat, rho]
        refine SQ.fin (SQ.runL (rs := []) [0, 1, 2, 3, 4, 5, 6, 7, 8, 9, 10, 11, 12, 13, 26, 27, 16, 17, 18, 28, 29, 21, 22, 30, 24] _ _ rfl (And.intro rfl rfl) (by decide) rfl rfl ?_ ?_)
        · simp -dsimp (decide := true) (maxSteps := 1000000) (disch := first | omega | simp (decide := true) only [oncgb0]) only [oncgb2, ↓brun_b, envOf, reduceIte, Nat.reduceEqDiff, Nat.reduceAdd, Nat.reduceSub, Nat.reduceMul, Nat.reduceBEq, Nat.reduceLeDiff, Nat.reduceLT, Int.reduceToNat, rho, hz, hzz, frz1, ↓reduceIte]
        · simp -dsimp (decide := true) (maxSteps := 1000000) (disch := first | omega | simp (decide := true) only [oncgb0]) only [oncgb2, ↓brun_b, envOf, reduceIte, Nat.reduceEqDiff, Nat.reduceAdd, Nat.reduceSub, Nat.reduceMul, Nat.reduceBEq, Nat.reduceLeDiff, Nat.reduceLT, Int.reduceToNat, rho, hz, hzz, frz1, ↓reduceIte]
          exact Ent.eq rfl
    have hk4 : ¬ kd = 4 := by simpa using h4
    simp -dsimp (decide := true) (maxSteps := 1000000) (disch := first | omega | simp (decide := true) only [oncgb0]) only [oncgb1, ↓brun_b, envOf, reduceIte, Nat.reduceEqDiff, Nat.reduceAdd, Nat.reduceSub, Nat.reduceMul, Nat.reduceBEq, Nat.reduceLeDiff, Nat.reduceLT, Int.reduceToNat, rho]
    refine SCond.split (fun h5 => ?_) (fun h5 => ?_)
    · have hk5 : kd = 5 := by simpa using h5
      by_cases hn0 : (T.w false).length = 0
      · have hT2 : T' = T := by rw [hT, playT, if_neg hk0, if_neg hk1, if_neg hk2, if_neg hk3, if_pos hn0]
        clear hT
        subst hT2
        rw [if_pos hn0] at hiv
        simp -dsimp (decide := true) (maxSteps := 1000000) (disch := first | omega | simp (decide := true) only [oncgb0]) only [oncgb1, ↓brun_b, envOf, reduceIte, Nat.reduceEqDiff, Nat.reduceAdd, Nat.reduceSub, Nat.reduceMul, Nat.reduceBEq, Nat.reduceLeDiff, Nat.reduceLT, Int.reduceToNat, rho, hiv]
        refine SQ.fin (SQ.runL (rs := []) [0, 1, 2, 3, 4, 5, 6, 7, 8, 9, 10, 11, 12, 13, 14, 15, 16, 17, 18, 19, 20, 21, 22, 23, 24] _ _ rfl (And.intro rfl rfl) (by decide) rfl rfl ?_ ?_)
        · simp -dsimp (decide := true) (maxSteps := 1000000) (disch := first | omega | simp (decide := true) only [oncgb0]) only [oncgb2, ↓brun_b, envOf, reduceIte, Nat.reduceEqDiff, Nat.reduceAdd, Nat.reduceSub, Nat.reduceMul, Nat.reduceBEq, Nat.reduceLeDiff, Nat.reduceLT, Int.reduceToNat, rho, hz, hzz, frz1, ↓reduceIte]
        · simp -dsimp (decide := true) (maxSteps := 1000000) (disch := first | omega | simp (decide := true) only [oncgb0]) only [oncgb2, ↓brun_b, envOf, reduceIte, Nat.reduceEqDiff, Nat.reduceAdd, Nat.reduceSub, Nat.reduceMul, Nat.reduceBEq, Nat.reduceLeDiff, Nat.reduceLT, Int.reduceToNat, rho, hz, hzz, frz1, ↓reduceIte]
          exact Ent.eq rfl
      · rw [if_neg hn0] at hiv
        obtain ⟨hi1, hi2⟩ := hidx (by omega)
        have hT2 : T' = { T with w := upd T.w false (restOf (T.w false) i) } := by rw [hT, playT, if_neg hk0, if_neg hk1, if_neg hk2, if_neg hk3, if_neg hn0, if_neg hk4, if_pos hk5]
        clear hT
        subst hT2
        simp only [upd_ff, upd_tt, upd_ft, upd_tf, Bool.not_false, Bool.not_true, Tk.say]
        have hrl := restOf_len (T.w false) i hi2
        have hre := fun fz ρ => @restOf_ent fz ρ (T.w false) i hi2 []
        generalize hw : (T.w false) = w0 at *
        have hwi : IntKind.i64.wrap ((i : Int) + 1) = ((i + 1 : Nat) : Int) := by rw [wrap_i64 _ (by omega)]; rfl
        have ht1 : ((i : Int) - 0).toNat = i := by omega
        have ht2 : ((w0.length : Int) - ((i + 1 : Nat) : Int)).toNat = w0.length - (i + 1) := by omega
        simp -dsimp (decide := true) (maxSteps := 1000000) (disch := first | omega | simp (decide := true) only [oncgb0]) only [oncgb1, ↓brun_b, envOf, reduceIte, Nat.reduceEqDiff, Nat.reduceAdd, Nat.reduceSub, Nat.reduceMul, Nat.reduceBEq, Nat.reduceLeDiff, Nat.reduceLT, Int.reduceToNat, rho, hiv, hwiv]
        refine Sem.draw' (by kernel_rfl) (.one 0 (.one 1 (.one 3 (.one 4 (.one 5 (.one 6 (.one 7 (.one 9 (.one 12 (.one 13 (.one 14 (.one 15 (.one 16 (.one 18 (.one 19 (.one 22 (.one 23 (.alt 2 (.alt 8 (.one 10 (.alt 11 (.alt 17 (.one 20 (.alt 21 (.one 24 (.alt 25 .done .non)) .non)) .non) (.alt 17 (.one 20 (.alt 11 (.alt 21 (.one 24 (.alt 25 .done .non)) .non) .non)) .non))) (.alt 17 (.one 20 (.alt 8 (.one 10 (.alt 11 (.alt 21 (.one 24 (.alt 25 .done .non)) .non) .non)) .non)) .non)) (.alt 8 (.one 10 (.alt 2 (.alt 11 (.alt 17 (.one 20 (.alt 21 (.one 24 (.alt 25 .done .non)) .non)) .non) (.alt 17 (.one 20 (.alt 11 (.alt 21 (.one 24 (.alt 25 .done .non)) .non) .non)) .non)) (.alt 17 (.one 20 (.alt 2 (.alt 11 (.alt 21 (.one 24 (.alt 25 .done .non)) .non) .non) .non)) .non))) (.alt 17 (.one 20 (.alt 2 (.alt 8 (.one 10 (.alt 11 (.alt 21 (.one 24 (.alt 25 .done .non)) .non) .non)) .non) (.alt 8 (.one 10 (.alt 2 (.alt 11 (.alt 21 (.one 24 (.alt 25 .done .non)) .non) .non) .non)) .non))) .non)))))))))))))))))))) [0] (by kernel_rfl) (fun G ff hG hf => ?_)
        simp (decide := true) only [oncgb5, Nat.reduceAdd] at hG ⊢
        simp -dsimp (decide := true) (maxSteps := 1000000) (disch := first | omega | simp (decide := true) only [oncgb0]) only [oncgb9, ↓brun_b, envOf, reduceIte, Nat.reduceEqDiff, Nat.reduceAdd, Nat.reduceSub, Nat.reduceMul, Nat.reduceBEq, Nat.reduceLeDiff, Nat.reduceLT, Int.reduceToNat, rho, hG, hwi, ht1, ht2, sapp1_sl el151]
        (repeat' refine And.intro ?_ ?_)
        all_goals try omega
        all_goals
          refine hf _ (Sem.go (k := 1000) ?_)
          simp (decide := true) only [back_mk, backL_in, backL_row, backL_none, backL_nil, Nat.zero_add, Nat.reduceAdd]
          simp -dsimp (decide := true) (maxSteps := 1000000) (disch := first | omega | simp (decide := true) only [oncgb0]) only [oncgb1, ↓brun_b, envOf, reduceIte, Nat.reduceEqDiff, Nat.reduceAdd, Nat.reduceSub, Nat.reduceMul, Nat.reduceBEq, Nat.reduceLeDiff, Nat.reduceLT, Int.reduceToNat, rho]
          refine SQ.fin (SQ.runL (rs := []) [0, 1, 2, 3, 4, 5, 6, 7, 8, 9, 10, 11, 12, 13, 14, 15, 16, 17, 18, 28, 20, 21, 22, 23, 24] _ _ rfl (And.intro rfl rfl) (by decide) rfl rfl ?_ ?_)
          · simp -dsimp (decide := true) (maxSteps := 1000000) (disch := first | omega | simp (decide := true) only [oncgb0]) only [oncgb2, ↓brun_b, envOf, reduceIte, Nat.reduceEqDiff, Nat.reduceAdd, Nat.reduceSub, Nat.reduceMul, Nat.reduceBEq, Nat.reduceLeDiff, Nat.reduceLT, Int.reduceToNat, rho, hrl, frz1, ↓reduceIte]
            exact fun e he => hre _ _ e
          · simp -dsimp (decide := true) (maxSteps := 1000000) (disch := first | omega | simp (decide := true) only [oncgb0]) only [oncgb2, ↓brun_b, envOf, reduceIte, Nat.reduceEqDiff, Nat.reduceAdd, Nat.reduceSub, Nat.reduceMul, Nat.reduceBEq, Nat.reduceLeDiff, Nat.reduceLT, Int.reduceToNat, rho, frz1, ↓reduceIte]
            exact Ent.eq rfl
    have hk5 : ¬ kd = 5 := by simpa using h5
    by_cases hn0 : (T.w false).length = 0
    · have hT2 : T' = T := by rw [hT, playT, if_neg hk0, if_neg hk1, if_neg hk2, if_neg hk3, if_pos hn0]
      clear hT
      subst hT2
      rw [if_pos hn0] at hiv
      simp -dsimp (decide := true) (maxSteps := 1000000) (disch := first | omega | simp (decide := true) only [oncgb0]) only [oncgb1, ↓brun_b, envOf, reduceIte, Nat.reduceEqDiff, Nat.reduceAdd, Nat.reduceSub, Nat.reduceMul, Nat.reduceBEq, Nat.reduceLeDiff, Nat.reduceLT, Int.reduceToNat, rho, hiv]
      refine SQ.fin (SQ.runL (rs := []) [0, 1, 2, 3, 4, 5, 6, 7, 8, 9, 10, 11, 12, 13, 14, 15, 16, 17, 18, 19, 20, 21, 22, 23, 24] _ _ rfl (And.intro rfl rfl) (by decide) rfl rfl ?_ ?_)
      · simp -dsimp (decide := true) (maxSteps := 1000000) (disch := first | omega | simp (decide := true) only [oncgb0]) only [oncgb2, ↓brun_b, envOf, reduceIte, Nat.reduceEqDiff, Nat.reduceAdd, Nat.reduceSub, Nat.reduceMul, Nat.reduceBEq, Nat.reduceLeDiff, Nat.reduceLT, Int.reduceToNat, rho, hz, hzz, frz1, ↓reduceIte]
      · simp -dsimp (decide := true) (maxSteps := 1000000) (disch := first | omega | simp (decide := true) only [oncgb0]) only [oncgb2, ↓brun_b, envOf, reduceIte, Nat.reduceEqDiff, Nat.reduceAdd, Nat.reduceSub, Nat.reduceMul, Nat.reduceBEq, Nat.reduceLeDiff, Nat.reduceLT, Int.reduceToNat, rho, hz, hzz, frz1, ↓reduceIte]
        exact Ent.eq rfl
    · rw [if_neg hn0] at hiv
      obtain ⟨hi1, hi2⟩ := hidx (by omega)
      have hT2 : T' = T.say (!false) [(T.w false).getD i (.ak 0 0 0)] := by rw [hT, playT, if_neg hk0, if_neg hk1, if_neg hk2, if_neg hk3, if_neg hn0, if_neg hk4, if_neg hk5]
      clear hT
      subst hT2
      simp only [upd_ff, upd_tt, upd_ft, upd_tf, Bool.not_false, Bool.not_true, Tk.say, sayL_one]
      generalize hf : (T.w false).getD i (.ak 0 0 0) = f at *
      have hs := sayD1 i0 i1 T i hi2 f hf _ rfl
      generalize hv : (if (T.w false).length < 200 then (T.w false) ++ [f] else (T.w false)) = v at *
      have hwi : IntKind.i64.wrap ((i : Int) + 1) = ((i + 1 : Nat) : Int) := by rw [wrap_i64 _ (by omega)]; rfl
      have ht3 : (((i + 1 : Nat) : Int) - (i : Int)).toNat = 1 := by omega
      simp -dsimp (decide := true) (maxSteps := 1000000) (disch := first | omega | simp (decide := true) only [oncgb0]) only [oncgb1, ↓brun_b, envOf, reduceIte, Nat.reduceEqDiff, Nat.reduceAdd, Nat.reduceSub, Nat.reduceMul, Nat.reduceBEq, Nat.reduceLeDiff, Nat.reduceLT, Int.reduceToNat, rho, hiv, hwiv, hwi, ht3]
      (repeat refine And.intro (by omega) ?_)
      refine SemOps.callw [0, 13, 14, 15, 16, 17, 18, 19, 20, 21, 22, 23, 24] cal.f134 (hs) rfl rfl rfl (by simp -dsimp (decide := true) (maxSteps := 1000000) (disch := first | omega | simp (decide := true) only [oncgb0]) only [oncgb2, ↓brun_b, envOf, reduceIte, Nat.reduceEqDiff, Nat.reduceAdd, Nat.reduceSub, Nat.reduceMul, Nat.reduceBEq, Nat.reduceLeDiff, Nat.reduceLT, Int.reduceToNat, rho, frz1, ↓reduceIte]) rfl (by simp -dsimp (decide := true) (maxSteps := 1000000) (disch := first | omega | simp (decide := true) only [oncgb0]) only [oncgb2, ↓brun_b, envOf, reduceIte, Nat.reduceEqDiff, Nat.reduceAdd, Nat.reduceSub, Nat.reduceMul, Nat.reduceBEq, Nat.reduceLeDiff, Nat.reduceLT, Int.reduceToNat, rho, frz1, ↓reduceIte]) (by simp -dsimp (decide := true) (maxSteps := 1000000) (disch := first | omega | simp (decide := true) only [oncgb0]) only [oncgc2, ↓brun_b, envOf, reduceIte, Nat.reduceEqDiff, Nat.reduceAdd, Nat.reduceSub, Nat.reduceMul, Nat.reduceBEq, Nat.reduceLeDiff, Nat.reduceLT, Int.reduceToNat]) ?_
      refine SemOps.go (k := 1000) ?_
      simp -dsimp (decide := true) (maxSteps := 1000000) (disch := first | omega | simp (decide := true) only [oncgb0]) only [oncgb1, ↓brun_b, envOf, reduceIte, Nat.reduceEqDiff, Nat.reduceAdd, Nat.reduceSub, Nat.reduceMul, Nat.reduceBEq, Nat.reduceLeDiff, Nat.reduceLT, Int.reduceToNat, rho]
      refine SQ.fin (SQ.runL (rs := []) [0, 1, 2, 3, 4, 5, 6, 7, 8, 9, 10, 11, 12, 13, 14, 15, 16, 17, 18, 26, 20, 21, 22, 23, 24] _ _ rfl (And.intro rfl rfl) (by decide) rfl rfl ?_ ?_)
      · simp -dsimp (decide := true) (maxSteps := 1000000) (disch := first | omega | simp (decide := true) only [oncgb0]) only [oncgb2, ↓brun_b, envOf, reduceIte, Nat.reduceEqDiff, Nat.reduceAdd, Nat.reduceSub, Nat.reduceMul, Nat.reduceBEq, Nat.reduceLeDiff, Nat.reduceLT, Int.reduceToNat, rho, hz, hzz, frz1, ↓reduceIte]
      · simp -dsimp (decide := true) (maxSteps := 1000000) (disch := first | omega | simp (decide := true) only [oncgb0]) only [oncgb2, ↓brun_b, envOf, reduceIte, Nat.reduceEqDiff, Nat.reduceAdd, Nat.reduceSub, Nat.reduceMul, Nat.reduceBEq, Nat.reduceLeDiff, Nat.reduceLT, Int.reduceToNat, rho, hz, hzz, frz1, ↓reduceIte]
        exact Ent.eq rfl
set_option maxHeartbeats 8000000 in
theorem play1 (i0 i1 : I16) (T : Tk) (kd sd ii : Int) (tx : Tx) (i : Nat) (iv : Int) (hsd : IntKind.i64.wrap ((IntKind.u64.wrap sd).tmod 2) = 1)
    (hidx : 0 < (T.w true).length → IntKind.i64.wrap ((IntKind.u64.wrap ii).tmod (IntKind.u64.wrap ((T.w true).length : Int))) = (i : Int) ∧ i < (T.w true).length) (hiv : iv = if (T.w true).length = 0 then -1 else (i : Int))
    (hwl : (T.w true).length ≤ 200) (hb : (T.e true).base + (T.e true).ts.length < 100000) (hgo : (T.e true).got < 100000) (hc : T.c true < 100000) (hgl : (T.g true).length < 100000) (hsl : (T.s true).length < 100000)
    (hts : (T.e true).up = true → ∀ t ∈ (T.e true).ts, t.length ≤ 4096) (htx : tx.length ≤ 140737488355328)
    (hda : ∀ f ∈ T.w true, ∀ a b n t, f = .da a b n t → I64 (n : Int) ∧ t.length ≤ 140737488355328) (hak : ∀ f ∈ T.w true, ∀ a b n, f = .ak a b n → I64 (n : Int))
    (T' : Tk) (hT : T' = playT i1 T true kd i tx) :
    SCall Try.prog 94 [.ptr 0 0 0, .agg [.v (.int .i64 kd), .v (.int .i64 sd), .v (.int .i64 ii), bsl tx]] [some (.row ⟨10, 1, true, 130, fun _ => [.ptr 1 0 0, .ptr 4 0 0, .slc 7 0 (T.w false).length, .slc 8 0 (T.w true).length, .v (.int .i64 ((T.c false) : Int)), .v (.int .i64 ((T.c true) : Int)), .slc 9 0 (T.s false).length, .slc 10 0 (T.s true).length, .slc 11 0 (T.g false).length, .slc 12 0 (T.g true).length]⟩),
      some (.row ⟨39, 1, true, 204, fun _ => EC.c ⟨i0, .v (.bool (T.e false).up), .v (.bool (T.e false).op), .v (.int .i64 (nI (T.e false).m)), .v (.int .i64 ((T.e false).m : Int)), .v (.int .i64 (nI (T.e false).p)), .v (.int .i64 ((T.e false).p : Int)), (T.e false).pid, .ptr 2 0 0⟩⟩),
      some (.row ⟨3, 1, true, 197, fun _ => [.v (.int .i64 ((T.e false).base : Int)), .slc 3 0 (T.e false).ts.length, .v (.int .i64 ((T.e false).got : Int))]⟩),
      some (.row ⟨1, (T.e false).ts.length, true, 35, trow (T.e false).ts⟩),
      some (.row ⟨39, 1, true, 204, fun _ => EC.c ⟨i1, .v (.bool (T.e true).up), .v (.bool (T.e true).op), .v (.int .i64 (nI (T.e true).m)), .v (.int .i64 ((T.e true).m : Int)), .v (.int .i64 (nI (T.e true).p)), .v (.int .i64 ((T.e true).p : Int)), (T.e true).pid, .ptr 5 0 0⟩⟩),
      some (.row ⟨3, 1, true, 197, fun _ => [.v (.int .i64 ((T.e true).base : Int)), .slc 6 0 (T.e true).ts.length, .v (.int .i64 ((T.e true).got : Int))]⟩),
      some (.row ⟨1, (T.e true).ts.length, true, 35, trow (T.e true).ts⟩),
      some (.row ⟨95, (T.w false).length, true, 151, wrow (T.w false)⟩),
      some (.row ⟨95, (T.w true).length, true, 151, wrow (T.w true)⟩),
      some (.row ⟨5, (T.s false).length, true, 137, srow (T.s false)⟩),
      some (.row ⟨5, (T.s true).length, true, 137, srow (T.s true)⟩),
      some (.row ⟨5, (T.g false).length, true, 137, srow (T.g false)⟩),
      some (.row ⟨5, (T.g true).length, true, 137, srow (T.g true)⟩)]
      fun r L => r = .ret (.tup []) ∧ L = [some (.row ⟨10, 1, true, 130, fun _ => [.ptr 13 0 0, .ptr 16 0 0, .slc 19 0 (T'.w false).length, .slc 20 0 (T'.w true).length, .v (.int .i64 ((T'.c false) : Int)), .v (.int .i64 ((T'.c true) : Int)), .slc 21 0 (T'.s false).length, .slc 22 0 (T'.s true).length, .slc 23 0 (T'.g false).length, .slc 24 0 (T'.g true).length]⟩),
      none,
      none,
      none,
      none,
      none,
      none,
      none,
      none,
      none,
      none,
      none,
      none,
      some (.row ⟨39, 1, true, 204, fun _ => EC.c ⟨i0, .v (.bool (T'.e false).up), .v (.bool (T'.e false).op), .v (.int .i64 (nI (T'.e false).m)), .v (.int .i64 ((T'.e false).m : Int)), .v (.int .i64 (nI (T'.e false).p)), .v (.int .i64 ((T'.e false).p : Int)), (T'.e false).pid, .ptr 14 0 0⟩⟩),
      some (.row ⟨3, 1, true, 197, fun _ => [.v (.int .i64 ((T'.e false).base : Int)), .slc 15 0 (T'.e false).ts.length, .v (.int .i64 ((T'.e false).got : Int))]⟩),
      some (.row ⟨1, (T'.e false).ts.length, true, 35, trow (T'.e false).ts⟩),
      some (.row ⟨39, 1, true, 204, fun _ => EC.c ⟨i1, .v (.bool (T'.e true).up), .v (.bool (T'.e true).op), .v (.int .i64 (nI (T'.e true).m)), .v (.int .i64 ((T'.e true).m : Int)), .v (.int .i64 (nI (T'.e true).p)), .v (.int .i64 ((T'.e true).p : Int)), (T'.e true).pid, .ptr 17 0 0⟩⟩),
      some (.row ⟨3, 1, true, 197, fun _ => [.v (.int .i64 ((T'.e true).base : Int)), .slc 18 0 (T'.e true).ts.length, .v (.int .i64 ((T'.e true).got : Int))]⟩),
      some (.row ⟨1, (T'.e true).ts.length, true, 35, trow (T'.e true).ts⟩),
      some (.row ⟨95, (T'.w false).length, true, 151, wrow (T'.w false)⟩),
      some (.row ⟨95, (T'.w true).length, true, 151, wrow (T'.w true)⟩),
      some (.row ⟨5, (T'.s false).length, true, 137, srow (T'.s false)⟩),
      some (.row ⟨5, (T'.s true).length, true, 137, srow (T'.s true)⟩),
      some (.row ⟨5, (T'.g false).length, true, 137, srow (T'.g false)⟩),
      some (.row ⟨5, (T'.g true).length, true, 137, srow (T'.g true)⟩)] := by
  have hz : nI 0 = 0 := rfl
  have hzz : ((0 : Nat) : Int) = 0 := rfl
  refine SCall.mk (fn := Try.f94) (by kernel_rfl) rfl (Nat.le_of_ble_eq_true (by kernel_rfl)) ?_
  refine Sem.go (k := 2) ?_
  simp -dsimp (decide := true) (maxSteps := 1000000) (disch := first | omega | simp (decide := true) only [oncgb0]) only [oncgb1, ↓brun_b, envOf, reduceIte, Nat.reduceEqDiff, Nat.reduceAdd, Nat.reduceSub, Nat.reduceMul, Nat.reduceBEq, Nat.reduceLeDiff, Nat.reduceLT, Int.reduceToNat, rho]
  refine Sem.weakenM (s' := ⟨163, 13, [(0, .ptr 0 0 0), (3, .ptr 25 0 0)], [some (.row ⟨10, 1, true, 130, fun _ => [.ptr 13 0 0, .ptr 16 0 0, .slc 19 0 (T.w false).length, .slc 20 0 (T.w true).length, .v (.int .i64 ((T.c false) : Int)), .v (.int .i64 ((T.c true) : Int)), .slc 21 0 (T.s false).length, .slc 22 0 (T.s true).length, .slc 23 0 (T.g false).length, .slc 24 0 (T.g true).length]⟩),
      none,
      none,
      none,
      none,
      none,
      none,
      none,
      none,
      none,
      none,
      none,
      none,
      some (.row ⟨39, 1, true, 204, fun _ => EC.c ⟨i0, .v (.bool (T.e false).up), .v (.bool (T.e false).op), .v (.int .i64 (nI (T.e false).m)), .v (.int .i64 ((T.e false).m : Int)), .v (.int .i64 (nI (T.e false).p)), .v (.int .i64 ((T.e false).p : Int)), (T.e false).pid, .ptr 14 0 0⟩⟩),
      some (.row ⟨3, 1, true, 197, fun _ => [.v (.int .i64 ((T.e false).base : Int)), .slc 15 0 (T.e false).ts.length, .v (.int .i64 ((T.e false).got : Int))]⟩),
      some (.row ⟨1, (T.e false).ts.length, true, 35, trow (T.e false).ts⟩),
      some (.row ⟨39, 1, true, 204, fun _ => EC.c ⟨i1, .v (.bool (T.e true).up), .v (.bool (T.e true).op), .v (.int .i64 (nI (T.e true).m)), .v (.int .i64 ((T.e true).m : Int)), .v (.int .i64 (nI (T.e true).p)), .v (.int .i64 ((T.e true).p : Int)), (T.e true).pid, .ptr 17 0 0⟩⟩),
      some (.row ⟨3, 1, true, 197, fun _ => [.v (.int .i64 ((T.e true).base : Int)), .slc 18 0 (T.e true).ts.length, .v (.int .i64 ((T.e true).got : Int))]⟩),
      some (.row ⟨1, (T.e true).ts.length, true, 35, trow (T.e true).ts⟩),
      some (.row ⟨95, (T.w false).length, true, 151, wrow (T.w false)⟩),
      some (.row ⟨95, (T.w true).length, true, 151, wrow (T.w true)⟩),
      some (.row ⟨5, (T.s false).length, true, 137, srow (T.s false)⟩),
      some (.row ⟨5, (T.s true).length, true, 137, srow (T.s true)⟩),
      some (.row ⟨5, (T.g false).length, true, 137, srow (T.g false)⟩),
      some (.row ⟨5, (T.g true).length, true, 137, srow (T.g true)⟩),
      some (.row ⟨4, 1, true, 132, fun _ => [.v (.int .i64 kd), .v (.int .i64 sd), .v (.int .i64 ii), bsl tx]⟩)]⟩) [0, 1, 2, 3, 4, 5, 6, 7, 8, 9, 10, 11, 12, 1, 2, 3, 4, 5, 6, 7, 8, 9, 10, 11, 12, 13] ⟨rfl, rfl, rfl, rfl, rfl, rfl, ?_, ?_⟩ ?_
  · simp -dsimp (decide := true) (maxSteps := 1000000) (disch := first | omega | simp (decide := true) only [oncgb0]) only [oncgb2, ↓brun_b, envOf, reduceIte, Nat.reduceEqDiff, Nat.reduceAdd, Nat.reduceSub, Nat.reduceMul, Nat.reduceBEq, Nat.reduceLeDiff, Nat.reduceLT, Int.reduceToNat, rho, frz1, ↓reduceIte]
  · simp -dsimp (decide := true) (maxSteps := 1000000) (disch := first | omega | simp (decide := true) only [oncgb0]) only [oncgb2, ↓brun_b, envOf, reduceIte, Nat.reduceEqDiff, Nat.reduceAdd, Nat.reduceSub, Nat.reduceMul, Nat.reduceBEq, Nat.reduceLeDiff, Nat.reduceLT, Int.reduceToNat, rho, frz1, ↓reduceIte]
  refine Sem.go (k := 5) ?_
  simp -dsimp (decide := true) (maxSteps := 1000000) (disch := first | omega | simp (decide := true) only [oncgb0]) only [oncgb1, ↓brun_b, envOf, reduceIte, Nat.reduceEqDiff, Nat.reduceAdd, Nat.reduceSub, Nat.reduceMul, Nat.reduceBEq, Nat.reduceLeDiff, Nat.reduceLT, Int.reduceToNat, rho, hsd]
  have hwiv : decide (0 ≤ (i : Int)) = true := decide_eq_true (by omega)
  refine Sem.cutW [_] ⟨163, 13, [(0, .ptr 0 0 0), (3, .ptr 25 0 0), (4, .v (.int .i64 1)), (5, .v (.int .i64 iv))], [some (.row ⟨10, 1, true, 130, fun _ => [.ptr 13 0 0, .ptr 16 0 0, .slc 19 0 (T.w false).length, .slc 20 0 (T.w true).length, .v (.int .i64 ((T.c false) : Int)), .v (.int .i64 ((T.c true) : Int)), .slc 21 0 (T.s false).length, .slc 22 0 (T.s true).length, .slc 23 0 (T.g false).length, .slc 24 0 (T.g true).length]⟩),
      none,
      none,
      none,
      none,
      none,
      none,
      none,
      none,
      none,
      none,
      none,
      none,
      some (.row ⟨39, 1, true, 204, fun _ => EC.c ⟨i0, .v (.bool (T.e false).up), .v (.bool (T.e false).op), .v (.int .i64 (nI (T.e false).m)), .v (.int .i64 ((T.e false).m : Int)), .v (.int .i64 (nI (T.e false).p)), .v (.int .i64 ((T.e false).p : Int)), (T.e false).pid, .ptr 14 0 0⟩⟩),
      some (.row ⟨3, 1, true, 197, fun _ => [.v (.int .i64 ((T.e false).base : Int)), .slc 15 0 (T.e false).ts.length, .v (.int .i64 ((T.e false).got : Int))]⟩),
      some (.row ⟨1, (T.e false).ts.length, true, 35, trow (T.e false).ts⟩),
      some (.row ⟨39, 1, true, 204, fun _ => EC.c ⟨i1, .v (.bool (T.e true).up), .v (.bool (T.e true).op), .v (.int .i64 (nI (T.e true).m)), .v (.int .i64 ((T.e true).m : Int)), .v (.int .i64 (nI (T.e true).p)), .v (.int .i64 ((T.e true).p : Int)), (T.e true).pid, .ptr 17 0 0⟩⟩),
      some (.row ⟨3, 1, true, 197, fun _ => [.v (.int .i64 ((T.e true).base : Int)), .slc 18 0 (T.e true).ts.length, .v (.int .i64 ((T.e true).got : Int))]⟩),
      some (.row ⟨1, (T.e true).ts.length, true, 35, trow (T.e true).ts⟩),
      some (.row ⟨95, (T.w false).length, true, 151, wrow (T.w false)⟩),
      some (.row ⟨95, (T.w true).length, true, 151, wrow (T.w true)⟩),
      some (.row ⟨5, (T.s false).length, true, 137, srow (T.s false)⟩),
      some (.row ⟨5, (T.s true).length, true, 137, srow (T.s true)⟩),
      some (.row ⟨5, (T.g false).length, true, 137, srow (T.g false)⟩),
      some (.row ⟨5, (T.g true).length, true, 137, srow (T.g true)⟩),
      some (.row ⟨4, 1, true, 132, fun _ => [.v (.int .i64 kd), .v (.int .i64 sd), .v (.int .i64 ii), bsl tx]⟩)]⟩ ?_ ?_
  · refine Sem.go (k := 1000) ?_
    simp -dsimp (decide := true) (maxSteps := 1000000) (disch := first | omega | simp (decide := true) only [oncgb0]) only [oncgb1, ↓brun_b, envOf, reduceIte, Nat.reduceEqDiff, Nat.reduceAdd, Nat.reduceSub, Nat.reduceMul, Nat.reduceBEq, Nat.reduceLeDiff, Nat.reduceLT, Int.reduceToNat, rho]
    refine SCond.split (fun h => ?_) (fun h => ?_)
    · simp only [decide_eq_true_eq] at h
      obtain ⟨h1, h2⟩ := hidx (by omega)
      rw [if_neg (by omega)] at hiv
      simp -dsimp (decide := true) (maxSteps := 1000000) (disch := first | omega | simp (decide := true) only [oncgb0]) only [oncgb1, ↓brun_b, envOf, reduceIte, Nat.reduceEqDiff, Nat.reduceAdd, Nat.reduceSub, Nat.reduceMul, Nat.reduceBEq, Nat.reduceLeDiff, Nat.reduceLT, Int.reduceToNat, rho, h1]
      (repeat refine And.intro (by first | omega | (rw [wrap_u64 _ (by omega)]; omega)) ?_)
      refine ⟨[0, 1, 2, 3, 4, 5, 6, 7, 8, 9, 10, 11, 12, 13, 14, 15, 16, 17, 18, 19, 20, 21, 22, 23, 24, 25], ?_⟩
      (refine Wk.ofC ?_; simp -dsimp (decide := true) (maxSteps := 1000000) (disch := first | omega | simp (decide := true) only [oncgb0]) only [oncgb2, ↓brun_b, envOf, reduceIte, Nat.reduceEqDiff, Nat.reduceAdd, Nat.reduceSub, Nat.reduceMul, Nat.reduceBEq, Nat.reduceLeDiff, Nat.reduceLT, Int.reduceToNat, rho, hiv, frz1, ↓reduceIte])
    · simp only [decide_eq_false_iff_not] at h
      rw [if_pos (by omega)] at hiv
      simp -dsimp (decide := true) (maxSteps := 1000000) (disch := first | omega | simp (decide := true) only [oncgb0]) only [oncgb1, ↓brun_b, envOf, reduceIte, Nat.reduceEqDiff, Nat.reduceAdd, Nat.reduceSub, Nat.reduceMul, Nat.reduceBEq, Nat.reduceLeDiff, Nat.reduceLT, Int.reduceToNat, rho]
      refine ⟨[0, 1, 2, 3, 4, 5, 6, 7, 8, 9, 10, 11, 12, 13, 14, 15, 16, 17, 18, 19, 20, 21, 22, 23, 24, 25], ?_⟩
      (refine Wk.ofC ?_; simp -dsimp (decide := true) (maxSteps := 1000000) (disch := first | omega | simp (decide := true) only [oncgb0]) only [oncgb2, ↓brun_b, envOf, reduceIte, Nat.reduceEqDiff, Nat.reduceAdd, Nat.reduceSub, Nat.reduceMul, Nat.reduceBEq, Nat.reduceLeDiff, Nat.reduceLT, Int.reduceToNat, rho, hiv, frz1, ↓reduceIte])
  · refine Sem.go (k := 1000) ?_
    simp -dsimp (decide := true) (maxSteps := 1000000) (disch := first | omega | simp (decide := true) only [oncgb0]) only [oncgb1, ↓brun_b, envOf, reduceIte, Nat.reduceEqDiff, Nat.reduceAdd, Nat.reduceSub, Nat.reduceMul, Nat.reduceBEq, Nat.reduceLeDiff, Nat.reduceLT, Int.reduceToNat, rho]
    refine SCond.split (fun h0 => ?_) (fun h0 => ?_)
    · have hk0 : kd = 0 := by simpa using h0
      have hT2 : T' = riseT i1 T true := by rw [hT, playT, if_pos hk0]
      by_cases hup0 : (T.e true).up = true
      case' neg =>
        have hup : (T.e true).up = false := by simpa using hup0
        rw [riseT, if_neg hup0] at hT2
        clear hT
        subst hT2
        have hr := riseNo1 i0 i1 T hup (by omega)
        simp only [upd_ff, upd_tt, upd_ft, upd_tf, Bool.not_false, Bool.not_true, Tk.say, En.risen, nI_succ, hz]
        simp -dsimp (decide := true) (maxSteps := 1000000) (disch := first | omega | simp (decide := true) only [oncgb0]) only [oncgb1, ↓brun_b, envOf, reduceIte, Nat.reduceEqDiff, Nat.reduceAdd, Nat.reduceSub, Nat.reduceMul, Nat.reduceBEq, Nat.reduceLeDiff, Nat.reduceLT, Int.reduceToNat, rho]
        refine SemOps.callw [0, 13, 14, 15, 16, 17, 18, 19, 20, 21, 22, 23, 24] cal.f133 (hr) rfl rfl rfl (by simp -dsimp (decide := true) (maxSteps := 1000000) (disch := first | omega | simp (decide := true) only [oncgb0]) only [oncgb2, ↓brun_b, envOf, reduceIte, Nat.reduceEqDiff, Nat.reduceAdd, Nat.reduceSub, Nat.reduceMul, Nat.reduceBEq, Nat.reduceLeDiff, Nat.reduceLT, Int.reduceToNat, rho, frz1, ↓reduceIte]) rfl (by simp -dsimp (decide := true) (maxSteps := 1000000) (disch := first | omega | simp (decide := true) only [oncgb0]) only [oncgb2, ↓brun_b, envOf, reduceIte, Nat.reduceEqDiff, Nat.reduceAdd, Nat.reduceSub, Nat.reduceMul, Nat.reduceBEq, Nat.reduceLeDiff, Nat.reduceLT, Int.reduceToNat, rho, frz1, ↓reduceIte]) (by simp -dsimp (decide := true) (maxSteps := 1000000) (disch := first | omega | simp (decide := true) only [oncgb0]) only [oncgc2, ↓brun_b, envOf, reduceIte, Nat.reduceEqDiff, Nat.reduceAdd, Nat.reduceSub, Nat.reduceMul, Nat.reduceBEq, Nat.reduceLeDiff, Nat.reduceLT, Int.reduceToNat]) ?_
        refine SemOps.go (k := 1000) ?_
        simp -dsimp (decide := true) (maxSteps := 1000000) (disch := first | omega | simp (decide := true) only [oncgb0]) only [oncgb1, ↓brun_b, envOf, reduceIte, Nat.reduceEqDiff, Nat.reduceAdd, Nat.reduceSub, Nat.reduceMul, Nat.reduceBEq, Nat.reduceLeDiff, Nat.reduceLT, Int.reduceToNat, rho]
        refine SQ.fin (SQ.runL (rs := []) [0, 1, 2, 3, 4, 5, 6, 7, 8, 9, 10, 11, 12, 13, 14, 15, 16, 26, 27, 28, 20, 21, 22, 23, 24] _ _ rfl (And.intro rfl rfl) (by decide) rfl rfl ?_ ?_)
        · simp -dsimp (decide := true) (maxSteps := 1000000) (disch := first | omega | simp (decide := true) only [oncgb0]) only [oncgb2, ↓brun_b, envOf, reduceIte, Nat.reduceEqDiff, Nat.reduceAdd, Nat.reduceSub, Nat.reduceMul, Nat.reduceBEq, Nat.reduceLeDiff, Nat.reduceLT, Int.reduceToNat, rho, hz, hzz, frz1, ↓reduceIte]
        · simp -dsimp (decide := true) (maxSteps := 1000000) (disch := first | omega | simp (decide := true) only [oncgb0]) only [oncgb2, ↓brun_b, envOf, reduceIte, Nat.reduceEqDiff, Nat.reduceAdd, Nat.reduceSub, Nat.reduceMul, Nat.reduceBEq, Nat.reduceLeDiff, Nat.reduceLT, Int.reduceToNat, rho, hz, hzz, frz1, ↓reduceIte]
          exact Ent.eq rfl
      case' pos =>
        have hup := hup0
        rw [riseT, if_pos hup] at hT2
        clear hT
        subst hT2
        have hr := riseUp1 i0 i1 T' hup
        simp -dsimp (decide := true) (maxSteps := 1000000) (disch := first | omega | simp (decide := true) only [oncgb0]) only [oncgb1, ↓brun_b, envOf, reduceIte, Nat.reduceEqDiff, Nat.reduceAdd, Nat.reduceSub, Nat.reduceMul, Nat.reduceBEq, Nat.reduceLeDiff, Nat.reduceLT, Int.reduceToNat, rho]
        refine SemOps.callw [0, 13, 14, 15, 16, 17, 18, 19, 20, 21, 22, 23, 24] cal.f133 (hr) rfl rfl rfl (by simp -dsimp (decide := true) (maxSteps := 1000000) (disch := first | omega | simp (decide := true) only [oncgb0]) only [oncgb2, ↓brun_b, envOf, reduceIte, Nat.reduceEqDiff, Nat.reduceAdd, Nat.reduceSub, Nat.reduceMul, Nat.reduceBEq, Nat.reduceLeDiff, Nat.reduceLT, Int.reduceToNat, rho, frz1, ↓reduceIte]) rfl (by simp -dsimp (decide := true) (maxSteps := 1000000) (disch := first | omega | simp (decide := true) only [oncgb0]) only [oncgb2, ↓brun_b, envOf, reduceIte, Nat.reduceEqDiff, Nat.reduceAdd, Nat.reduceSub, Nat.reduceMul, Nat.reduceBEq, Nat.reduceLeDiff, Nat.reduceLT, Int.reduceToNat, rho, frz1, ↓reduceIte]) (by simp -dsimp (decide := true) (maxSteps := 1000000) (disch := first | omega | simp (decide := true) only [oncgb0]) only [oncgc2, ↓brun_b, envOf, reduceIte, Nat.reduceEqDiff, Nat.reduceAdd, Nat.reduceSub, Nat.reduceMul, Nat.reduceBEq, Nat.reduceLeDiff, Nat.reduceLT, Int.reduceToNat]) ?_
        refine SemOps.go (k := 1000) ?_
        simp -dsimp (decide := true) (maxSteps := 1000000) (disch := first | omega | simp (decide := true) only [oncgb0]) only [oncgb1, ↓brun_b, envOf, reduceIte, Nat.reduceEqDiff, Nat.reduceAdd, Nat.reduceSub, Nat.reduceMul, Nat.reduceBEq, Nat.reduceLeDiff, Nat.reduceLT, Int.reduceToNat, rho]
        refine SQ.fin (SQ.runL (rs := []) [0, 1, 2, 3, 4, 5, 6, 7, 8, 9, 10, 11, 12, 13, 14, 15, 16, 17, 18, 19, 20, 21, 22, 23, 24] _ _ rfl (And.intro rfl rfl) (by decide) rfl rfl ?_ ?_)
        · simp -dsimp (decide := true) (maxSteps := 1000000) (disch := first | omega | simp (decide := true) only [oncgb0]) only [oncgb2, ↓brun_b, envOf, reduceIte, Nat.reduceEqDiff, Nat.reduceAdd, Nat.reduceSub, Nat.reduceMul, Nat.reduceBEq, Nat.reduceLeDiff, Nat.reduceLT, Int.reduceToNat, rho, hz, hzz, frz1, ↓reduceIte]
        · simp -dsimp (decide := true) (maxSteps := 1000000) (disch := first | omega | simp (decide := true) only [oncgb0]) only [oncgb2, ↓brun_b, envOf, reduceIte, Nat.reduceEqDiff, Nat.reduceAdd, Nat.reduceSub, Nat.reduceMul, Nat.reduceBEq, Nat.reduceLeDiff, Nat.reduceLT, Int.reduceToNat, rho, hz, hzz, frz1, ↓reduceIte]
          exact Ent.eq rfl
    have hk0 : ¬ kd = 0 := by simpa using h0
    simp -dsimp (decide := true) (maxSteps := 1000000) (disch := first | omega | simp (decide := true) only [oncgb0]) only [oncgb1, ↓brun_b, envOf, reduceIte, Nat.reduceEqDiff, Nat.reduceAdd, Nat.reduceSub, Nat.reduceMul, Nat.reduceBEq, Nat.reduceLeDiff, Nat.reduceLT, Int.reduceToNat, rho]
    refine SCond.split (fun h1 => ?_) (fun h1 => ?_)
    · have hk1 : kd = 1 := by simpa using h1
      have hT2 : T' = { T with e := upd T.e true En.down } := by rw [hT, playT, if_neg hk0, if_pos hk1]
      clear hT
      subst hT2
      simp only [upd_ff, upd_tt, upd_ft, upd_tf, Bool.not_false, Bool.not_true, Tk.say, En.down, hz]
      generalize he : T.e true = e at *
      obtain ⟨up, op, m, p, pid, base, got, ts⟩ := e
      simp only at *
      have hr := fall_calls i1 pid up op (nI m) (m : Int) (nI p) (p : Int) (base : Int) (got : Int) ts
      simp -dsimp (decide := true) (maxSteps := 1000000) (disch := first | omega | simp (decide := true) only [oncgb0]) only [oncgb1, ↓brun_b, envOf, reduceIte, Nat.reduceEqDiff, Nat.reduceAdd, Nat.reduceSub, Nat.reduceMul, Nat.reduceBEq, Nat.reduceLeDiff, Nat.reduceLT, Int.reduceToNat, rho]
      refine SemOps.callw [16, 17, 18] cal.f98 (hr) rfl rfl rfl (by simp -dsimp (decide := true) (maxSteps := 1000000) (disch := first | omega | simp (decide := true) only [oncgb0]) only [oncgb2, ↓brun_b, envOf, reduceIte, Nat.reduceEqDiff, Nat.reduceAdd, Nat.reduceSub, Nat.reduceMul, Nat.reduceBEq, Nat.reduceLeDiff, Nat.reduceLT, Int.reduceToNat, rho, frz1, ↓reduceIte]) rfl (by simp -dsimp (decide := true) (maxSteps := 1000000) (disch := first | omega | simp (decide := true) only [oncgb0]) only [oncgb2, ↓brun_b, envOf, reduceIte, Nat.reduceEqDiff, Nat.reduceAdd, Nat.reduceSub, Nat.reduceMul, Nat.reduceBEq, Nat.reduceLeDiff, Nat.reduceLT, Int.reduceToNat, rho, frz1, ↓reduceIte]) (by simp -dsimp (decide := true) (maxSteps := 1000000) (disch := first | omega | simp (decide := true) only [oncgb0]) only [oncgc2, ↓brun_b, envOf, reduceIte, Nat.reduceEqDiff, Nat.reduceAdd, Nat.reduceSub, Nat.reduceMul, Nat.reduceBEq, Nat.reduceLeDiff, Nat.reduceLT, Int.reduceToNat]) ?_
      refine SemOps.go (k := 1000) ?_
      simp -dsimp (decide := true) (maxSteps := 1000000) (disch := first | omega | simp (decide := true) only [oncgb0]) only [oncgb1, ↓brun_b, envOf, reduceIte, Nat.reduceEqDiff, Nat.reduceAdd, Nat.reduceSub, Nat.reduceMul, Nat.reduceBEq, Nat.reduceLeDiff, Nat.reduceLT, Int.reduceToNat, rho]
      refine SQ.fin (SQ.runL (rs := []) [0, 1, 2, 3, 4, 5, 6, 7, 8, 9, 10, 11, 12, 13, 14, 15, 16, 26, 27, 19, 20, 21, 22, 23, 24] _ _ rfl (And.intro rfl rfl) (by decide) rfl rfl ?_ ?_)
      · simp -dsimp (decide := true) (maxSteps := 1000000) (disch := first | omega | simp (decide := true) only [oncgb0]) only [oncgb2, ↓brun_b, envOf, reduceIte, Nat.reduceEqDiff, Nat.reduceAdd, Nat.reduceSub, Nat.reduceMul, Nat.reduceBEq, Nat.reduceLeDiff, Nat.reduceLT, Int.reduceToNat, rho, hz, hzz, frz1, ↓reduceIte]
      · simp -dsimp (decide := true) (maxSteps := 1000000) (disch := first | omega | simp (decide := true) only [oncgb0]) only [oncgb2, ↓brun_b, envOf, reduceIte, Nat.reduceEqDiff, Nat.reduceAdd, Nat.reduceSub, Nat.reduceMul, Nat.reduceBEq, Nat.reduceLeDiff, Nat.reduceLT, Int.reduceToNat, rho, hz, hzz, frz1, ↓reduceIte]
        exact Ent.eq rfl
    have hk1 : ¬ kd = 1 := by simpa using h1
    simp -dsimp (decide := true) (maxSteps := 1000000) (disch := first | omega | simp (decide := true) only [oncgb0]) only [oncgb1, ↓brun_b, envOf, reduceIte, Nat.reduceEqDiff, Nat.reduceAdd, Nat.reduceSub, Nat.reduceMul, Nat.reduceBEq, Nat.reduceLeDiff, Nat.reduceLT, Int.reduceToNat, rho]
    refine SCond.split (fun h2 => ?_) (fun h2 => ?_)
    · have hk2 : kd = 2 := by simpa using h2
      have hT2 : T' = T.say true (tick i1 (T.e true)) := by rw [hT, playT, if_neg hk0, if_neg hk1, if_pos hk2]
      clear hT
      generalize he : T.e true = e at *
      obtain ⟨up, op, m, p, pid, base, got, ts⟩ := e
      simp only at *
      cases up
      · simp only [tick, if_true] at hT2
        subst hT2
        simp only [upd_ff, upd_tt, upd_ft, upd_tf, Bool.not_false, Bool.not_true, Tk.say, sayL_nil, he]
        have hr := tickDown_calls i1 pid op (nI m) (m : Int) (nI p) (p : Int) (base : Int) (got : Int) ts
        have hs := say1 i0 i1 T ([]) (by simp; try omega)
        simp only [he, sayL_nil] at hs
        simp -dsimp (decide := true) (maxSteps := 1000000) (disch := first | omega | simp (decide := true) only [oncgb0]) only [oncgb1, ↓brun_b, envOf, reduceIte, Nat.reduceEqDiff, Nat.reduceAdd, Nat.reduceSub, Nat.reduceMul, Nat.reduceBEq, Nat.reduceLeDiff, Nat.reduceLT, Int.reduceToNat, rho]
        refine SemOps.callw [16, 17, 18] cal.f100 (hr) rfl rfl rfl (by simp -dsimp (decide := true) (maxSteps := 1000000) (disch := first | omega | simp (decide := true) only [oncgb0]) only [oncgb2, ↓brun_b, envOf, reduceIte, Nat.reduceEqDiff, Nat.reduceAdd, Nat.reduceSub, Nat.reduceMul, Nat.reduceBEq, Nat.reduceLeDiff, Nat.reduceLT, Int.reduceToNat, rho, frz1, ↓reduceIte]) rfl (by simp -dsimp (decide := true) (maxSteps := 1000000) (disch := first | omega | simp (decide := true) only [oncgb0]) only [oncgb2, ↓brun_b, envOf, reduceIte, Nat.reduceEqDiff, Nat.reduceAdd, Nat.reduceSub, Nat.reduceMul, Nat.reduceBEq, Nat.reduceLeDiff, Nat.reduceLT, Int.reduceToNat, rho, frz1, ↓reduceIte]) (by simp -dsimp (decide := true) (maxSteps := 1000000) (disch := first | omega | simp (decide := true) only [oncgb0]) only [oncgc2, ↓brun_b, envOf, reduceIte, Nat.reduceEqDiff, Nat.reduceAdd, Nat.reduceSub, Nat.reduceMul, Nat.reduceBEq, Nat.reduceLeDiff, Nat.reduceLT, Int.reduceToNat]) ?_
        refine SemOps.go (k := 1000) ?_
        simp -dsimp (decide := true) (maxSteps := 1000000) (disch := first | omega | simp (decide := true) only [oncgb0]) only [oncgb1, ↓brun_b, envOf, reduceIte, Nat.reduceEqDiff, Nat.reduceAdd, Nat.reduceSub, Nat.reduceMul, Nat.reduceBEq, Nat.reduceLeDiff, Nat.reduceLT, Int.reduceToNat, rho]
        refine SemOps.callw [0, 13, 14, 15, 16, 17, 18, 19, 20, 21, 22, 23, 24] cal.f134 (hs) rfl rfl rfl (by simp -dsimp (decide := true) (maxSteps := 1000000) (disch := first | omega | simp (decide := true) only [oncgb0]) only [oncgb4, ↓brun_b, envOf, reduceIte, Nat.reduceEqDiff, Nat.reduceAdd, Nat.reduceSub, Nat.reduceMul, Nat.reduceBEq, Nat.reduceLeDiff, Nat.reduceLT, Int.reduceToNat, rho, bsl, List.map_cons, List.map_nil, frz1, ↓reduceIte]) rfl (by simp -dsimp (decide := true) (maxSteps := 1000000) (disch := first | omega | simp (decide := true) only [oncgb0]) only [oncgb4, ↓brun_b, envOf, reduceIte, Nat.reduceEqDiff, Nat.reduceAdd, Nat.reduceSub, Nat.reduceMul, Nat.reduceBEq, Nat.reduceLeDiff, Nat.reduceLT, Int.reduceToNat, rho, bsl, List.map_cons, List.map_nil, frz1, ↓reduceIte]) (by simp -dsimp (decide := true) (maxSteps := 1000000) (disch := first | omega | simp (decide := true) only [oncgb0]) only [oncgc2, ↓brun_b, envOf, reduceIte, Nat.reduceEqDiff, Nat.reduceAdd, Nat.reduceSub, Nat.reduceMul, Nat.reduceBEq, Nat.reduceLeDiff, Nat.reduceLT, Int.reduceToNat]) ?_
        refine SemOps.go (k := 1000) ?_
        simp -dsimp (decide := true) (maxSteps := 1000000) (disch := first | omega | simp (decide := true) only [oncgb0]) only [oncgb1, ↓brun_b, envOf, reduceIte, Nat.reduceEqDiff, Nat.reduceAdd, Nat.reduceSub, Nat.reduceMul, Nat.reduceBEq, Nat.reduceLeDiff, Nat.reduceLT, Int.reduceToNat, rho]
        refine SQ.fin (SQ.runL (rs := []) [0, 1, 2, 3, 4, 5, 6, 7, 8, 9, 10, 11, 12, 13, 14, 15, 16, 17, 18, 26, 20, 21, 22, 23, 24] _ _ rfl (And.intro rfl rfl) (by decide) rfl rfl ?_ ?_)
        · simp -dsimp (decide := true) (maxSteps := 1000000) (disch := first | omega | simp (decide := true) only [oncgb0]) only [oncgb2, ↓brun_b, envOf, reduceIte, Nat.reduceEqDiff, Nat.reduceAdd, Nat.reduceSub, Nat.reduceMul, Nat.reduceBEq, Nat.reduceLeDiff, Nat.reduceLT, Int.reduceToNat, rho, hz, hzz, frz1, ↓reduceIte]
        · simp -dsimp (decide := true) (maxSteps := 1000000) (disch := first | omega | simp (decide := true) only [oncgb0]) only [oncgb2, ↓brun_b, envOf, reduceIte, Nat.reduceEqDiff, Nat.reduceAdd, Nat.reduceSub, Nat.reduceMul, Nat.reduceBEq, Nat.reduceLeDiff, Nat.reduceLT, Int.reduceToNat, rho, hz, hzz, frz1, ↓reduceIte]
          exact Ent.eq rfl
      · cases op
        · simp only [tick, Bool.true_eq_false, if_false, if_true] at hT2
          subst hT2
          simp only [upd_ff, upd_tt, upd_ft, upd_tf, Bool.not_false, Bool.not_true, Tk.say, he]
          have hr := tickHi_calls i1 pid (nI m) (m : Int) (nI p) (p : Int) (base : Int) (got : Int) ts
          have hs := say1 i0 i1 T ([Ms.hi m p i1]) (by simp; try omega)
          simp only [he, sayL_nil] at hs
          simp -dsimp (decide := true) (maxSteps := 1000000) (disch := first | omega | simp (decide := true) only [oncgb0]) only [oncgb1, ↓brun_b, envOf, reduceIte, Nat.reduceEqDiff, Nat.reduceAdd, Nat.reduceSub, Nat.reduceMul, Nat.reduceBEq, Nat.reduceLeDiff, Nat.reduceLT, Int.reduceToNat, rho]
          refine SemOps.callw [16, 17, 18] cal.f100 (hr) rfl rfl rfl (by simp -dsimp (decide := true) (maxSteps := 1000000) (disch := first | omega | simp (decide := true) only [oncgb0]) only [oncgb2, ↓brun_b, envOf, reduceIte, Nat.reduceEqDiff, Nat.reduceAdd, Nat.reduceSub, Nat.reduceMul, Nat.reduceBEq, Nat.reduceLeDiff, Nat.reduceLT, Int.reduceToNat, rho, frz1, ↓reduceIte]) rfl (by simp -dsimp (decide := true) (maxSteps := 1000000) (disch := first | omega | simp (decide := true) only [oncgb0]) only [oncgb2, ↓brun_b, envOf, reduceIte, Nat.reduceEqDiff, Nat.reduceAdd, Nat.reduceSub, Nat.reduceMul, Nat.reduceBEq, Nat.reduceLeDiff, Nat.reduceLT, Int.reduceToNat, rho, frz1, ↓reduceIte]) (by simp -dsimp (decide := true) (maxSteps := 1000000) (disch := first | omega | simp (decide := true) only [oncgb0]) only [oncgc2, ↓brun_b, envOf, reduceIte, Nat.reduceEqDiff, Nat.reduceAdd, Nat.reduceSub, Nat.reduceMul, Nat.reduceBEq, Nat.reduceLeDiff, Nat.reduceLT, Int.reduceToNat]) ?_
          refine SemOps.go (k := 1000) ?_
          simp -dsimp (decide := true) (maxSteps := 1000000) (disch := first | omega | simp (decide := true) only [oncgb0]) only [oncgb1, ↓brun_b, envOf, reduceIte, Nat.reduceEqDiff, Nat.reduceAdd, Nat.reduceSub, Nat.reduceMul, Nat.reduceBEq, Nat.reduceLeDiff, Nat.reduceLT, Int.reduceToNat, rho]
          refine SemOps.frz (d := 74) (frows ([Ms.hi m p i1].map Ms.frm)) rfl rfl rfl (Nat.le_refl 1) (frows1_ent (hiF_ent _ _ _ _ _)) ?_
          refine SemOps.callw [0, 13, 14, 15, 16, 17, 18, 19, 20, 21, 22, 23, 24] cal.f134 (hs) rfl rfl rfl (by simp -dsimp (decide := true) (maxSteps := 1000000) (disch := first | omega | simp (decide := true) only [oncgb0]) only [oncgb4, ↓brun_b, envOf, reduceIte, Nat.reduceEqDiff, Nat.reduceAdd, Nat.reduceSub, Nat.reduceMul, Nat.reduceBEq, Nat.reduceLeDiff, Nat.reduceLT, Int.reduceToNat, rho, bsl, List.map_cons, List.map_nil, frz1, ↓reduceIte]) rfl (by simp -dsimp (decide := true) (maxSteps := 1000000) (disch := first | omega | simp (decide := true) only [oncgb0]) only [oncgb4, ↓brun_b, envOf, reduceIte, Nat.reduceEqDiff, Nat.reduceAdd, Nat.reduceSub, Nat.reduceMul, Nat.reduceBEq, Nat.reduceLeDiff, Nat.reduceLT, Int.reduceToNat, rho, bsl, List.map_cons, List.map_nil, frz1, ↓reduceIte]) (by simp -dsimp (decide := true) (maxSteps := 1000000) (disch := first | omega | simp (decide := true) only [oncgb0]) only [oncgc2, ↓brun_b, envOf, reduceIte, Nat.reduceEqDiff, Nat.reduceAdd, Nat.reduceSub, Nat.reduceMul, Nat.reduceBEq, Nat.reduceLeDiff, Nat.reduceLT, Int.reduceToNat]) ?_
          refine SemOps.go (k := 1000) ?_
          simp -dsimp (decide := true) (maxSteps := 1000000) (disch := first | omega | simp (decide := true) only [oncgb0]) only [oncgb1, ↓brun_b, envOf, reduceIte, Nat.reduceEqDiff, Nat.reduceAdd, Nat.reduceSub, Nat.reduceMul, Nat.reduceBEq, Nat.reduceLeDiff, Nat.reduceLT, Int.reduceToNat, rho]
          refine SQ.fin (SQ.runL (rs := []) [0, 1, 2, 3, 4, 5, 6, 7, 8, 9, 10, 11, 12, 13, 14, 15, 16, 17, 18, 27, 20, 21, 22, 23, 24] _ _ rfl (And.intro rfl rfl) (by decide) rfl rfl ?_ ?_)
          · simp -dsimp (decide := true) (maxSteps := 1000000) (disch := first | omega | simp (decide := true) only [oncgb0]) only [oncgb2, ↓brun_b, envOf, reduceIte, Nat.reduceEqDiff, Nat.reduceAdd, Nat.reduceSub, Nat.reduceMul, Nat.reduceBEq, Nat.reduceLeDiff, Nat.reduceLT, Int.reduceToNat, rho, hz, hzz, frz1, ↓reduceIte]
          · simp -dsimp (decide := true) (maxSteps := 1000000) (disch := first | omega | simp (decide := true) only [oncgb0]) only [oncgb2, ↓brun_b, envOf, reduceIte, Nat.reduceEqDiff, Nat.reduceAdd, Nat.reduceSub, Nat.reduceMul, Nat.reduceBEq, Nat.reduceLeDiff, Nat.reduceLT, Int.reduceToNat, rho, hz, hzz, frz1, ↓reduceIte]
            exact Ent.eq rfl
        · simp only [tick, Bool.true_eq_false, if_false] at hT2
          subst hT2
          simp only [upd_ff, upd_tt, upd_ft, upd_tf, Bool.not_false, Bool.not_true, Tk.say, he]
          have htl := tickL_len m p base ts
          have hr := tickOpen_calls i1 pid (nI m) (m : Int) (nI p) (p : Int) (got : Int) base ts (by omega) (by omega) (fun t ht => by have := hts rfl t ht; omega)
          have hs := say1 i0 i1 T ((List.range ts.length).map fun i => Ms.da m p (base + i) (ts.getD i [])) (by simp; try omega)
          simp only [he, sayL_nil] at hs
          simp -dsimp (decide := true) (maxSteps := 1000000) (disch := first | omega | simp (decide := true) only [oncgb0]) only [oncgb1, ↓brun_b, envOf, reduceIte, Nat.reduceEqDiff, Nat.reduceAdd, Nat.reduceSub, Nat.reduceMul, Nat.reduceBEq, Nat.reduceLeDiff, Nat.reduceLT, Int.reduceToNat, rho]
          refine SemOps.callw [16, 17, 18] cal.f100 (hr) rfl rfl rfl (by simp -dsimp (decide := true) (maxSteps := 1000000) (disch := first | omega | simp (decide := true) only [oncgb0]) only [oncgb2, ↓brun_b, envOf, reduceIte, Nat.reduceEqDiff, Nat.reduceAdd, Nat.reduceSub, Nat.reduceMul, Nat.reduceBEq, Nat.reduceLeDiff, Nat.reduceLT, Int.reduceToNat, rho, frz1, ↓reduceIte]) rfl (by simp -dsimp (decide := true) (maxSteps := 1000000) (disch := first | omega | simp (decide := true) only [oncgb0]) only [oncgb2, ↓brun_b, envOf, reduceIte, Nat.reduceEqDiff, Nat.reduceAdd, Nat.reduceSub, Nat.reduceMul, Nat.reduceBEq, Nat.reduceLeDiff, Nat.reduceLT, Int.reduceToNat, rho, frz1, ↓reduceIte]) (by simp -dsimp (decide := true) (maxSteps := 1000000) (disch := first | omega | simp (decide := true) only [oncgb0]) only [oncgc2, ↓brun_b, envOf, reduceIte, Nat.reduceEqDiff, Nat.reduceAdd, Nat.reduceSub, Nat.reduceMul, Nat.reduceBEq, Nat.reduceLeDiff, Nat.reduceLT, Int.reduceToNat]) ?_
          refine SemOps.go (k := 1000) ?_
          simp -dsimp (decide := true) (maxSteps := 1000000) (disch := first | omega | simp (decide := true) only [oncgb0]) only [oncgb1, ↓brun_b, envOf, reduceIte, Nat.reduceEqDiff, Nat.reduceAdd, Nat.reduceSub, Nat.reduceMul, Nat.reduceBEq, Nat.reduceLeDiff, Nat.reduceLT, Int.reduceToNat, rho]
          refine SemOps.frz (d := 74) (frows (((List.range ts.length).map fun i => Ms.da m p (base + i) (ts.getD i [])).map Ms.frm)) rfl rfl htl (by omega) (tickL_ent m p base ts) ?_
          refine SemOps.callw [0, 13, 14, 15, 16, 17, 18, 19, 20, 21, 22, 23, 24] cal.f134 (hs) rfl rfl rfl (by simp -dsimp (decide := true) (maxSteps := 1000000) (disch := first | omega | simp (decide := true) only [oncgb0]) only [oncgb4, ↓brun_b, envOf, reduceIte, Nat.reduceEqDiff, Nat.reduceAdd, Nat.reduceSub, Nat.reduceMul, Nat.reduceBEq, Nat.reduceLeDiff, Nat.reduceLT, Int.reduceToNat, rho, bsl, List.map_cons, List.map_nil, frz1, ↓reduceIte]) rfl (by simp -dsimp (decide := true) (maxSteps := 1000000) (disch := first | omega | simp (decide := true) only [oncgb0]) only [oncgb4, ↓brun_b, envOf, reduceIte, Nat.reduceEqDiff, Nat.reduceAdd, Nat.reduceSub, Nat.reduceMul, Nat.reduceBEq, Nat.reduceLeDiff, Nat.reduceLT, Int.reduceToNat, rho, bsl, List.map_cons, List.map_nil, frz1, ↓reduceIte]) (by simp -dsimp (decide := true) (maxSteps := 1000000) (disch := first | omega | simp (decide := true) only [oncgb0]) only [oncgc2, ↓brun_b, envOf, reduceIte, Nat.reduceEqDiff, Nat.reduceAdd, Nat.reduceSub, Nat.reduceMul, Nat.reduceBEq, Nat.reduceLeDiff, Nat.reduceLT, Int.reduceToNat]) ?_
          refine SemOps.go (k := 1000) ?_
          simp -dsimp (decide := true) (maxSteps := 1000000) (disch := first | omega | simp (decide := true) only [oncgb0]) only [oncgb1, ↓brun_b, envOf, reduceIte, Nat.reduceEqDiff, Nat.reduceAdd, Nat.reduceSub, Nat.reduceMul, Nat.reduceBEq, Nat.reduceLeDiff, Nat.reduceLT, Int.reduceToNat, rho]
          refine SQ.fin (SQ.runL (rs := []) [0, 1, 2, 3, 4, 5, 6, 7, 8, 9, 10, 11, 12, 13, 14, 15, 16, 17, 18, 27, 20, 21, 22, 23, 24] _ _ rfl (And.intro rfl rfl) (by decide) rfl rfl ?_ ?_)
          · simp -dsimp (decide := true) (maxSteps := 1000000) (disch := first | omega | simp (decide := true) only [oncgb0]) only [oncgb2, ↓brun_b, envOf, reduceIte, Nat.reduceEqDiff, Nat.reduceAdd, Nat.reduceSub, Nat.reduceMul, Nat.reduceBEq, Nat.reduceLeDiff, Nat.reduceLT, Int.reduceToNat, rho, hz, hzz, frz1, ↓reduceIte]
          · simp -dsimp (decide := true) (maxSteps := 1000000) (disch := first | omega | simp (decide := true) only [oncgb0]) only [oncgb2, ↓brun_b, envOf, reduceIte, Nat.reduceEqDiff, Nat.reduceAdd, Nat.reduceSub, Nat.reduceMul, Nat.reduceBEq, Nat.reduceLeDiff, Nat.reduceLT, Int.reduceToNat, rho, hz, hzz, frz1, ↓reduceIte]
            exact Ent.eq rfl
    have hk2 : ¬ kd = 2 := by simpa using h2
    simp -dsimp (decide := true) (maxSteps := 1000000) (disch := first | omega | simp (decide := true) only [oncgb0]) only [oncgb1, ↓brun_b, envOf, reduceIte, Nat.reduceEqDiff, Nat.reduceAdd, Nat.reduceSub, Nat.reduceMul, Nat.reduceBEq, Nat.reduceLeDiff, Nat.reduceLT, Int.reduceToNat, rho]
    refine SCond.split (fun h3 => ?_) (fun h3 => ?_)
    · have hk3 : kd = 3 := by simpa using h3
      have hT2 : T' = sendT T true tx := by rw [hT, playT, if_neg hk0, if_neg hk1, if_neg hk2, if_pos hk3]
      clear hT
      generalize he : T.e true = e at *
      obtain ⟨up, op, m, p, pid, base, got, ts⟩ := e
      simp only at *
      cases op
      · rw [sendT] at hT2
        simp only [he, true_or, if_true] at hT2
        subst hT2
        simp only [he]
        have hp := pair_calls i1 pid up false (nI m) (m : Int) (nI p) (p : Int) (base : Int) (got : Int) ts
        simp -dsimp (decide := true) (maxSteps := 1000000) (disch := first | omega | simp (decide := true) only [oncgb0]) only [oncgb1, ↓brun_b, envOf, reduceIte, Nat.reduceEqDiff, Nat.reduceAdd, Nat.reduceSub, Nat.reduceMul, Nat.reduceBEq, Nat.reduceLeDiff, Nat.reduceLT, Int.reduceToNat, rho]
        refine SemOps.callw [16, 17, 18] cal.f109 (hp) rfl rfl rfl (by simp -dsimp (decide := true) (maxSteps := 1000000) (disch := first | omega | simp (decide := true) only [oncgb0]) only [oncgb2, ↓brun_b, envOf, reduceIte, Nat.reduceEqDiff, Nat.reduceAdd, Nat.reduceSub, Nat.reduceMul, Nat.reduceBEq, Nat.reduceLeDiff, Nat.reduceLT, Int.reduceToNat, rho, frz1, ↓reduceIte]) rfl (by simp -dsimp (decide := true) (maxSteps := 1000000) (disch := first | omega | simp (decide := true) only [oncgb0]) only [oncgb2, ↓brun_b, envOf, reduceIte, Nat.reduceEqDiff, Nat.reduceAdd, Nat.reduceSub, Nat.reduceMul, Nat.reduceBEq, Nat.reduceLeDiff, Nat.reduceLT, Int.reduceToNat, rho, frz1, ↓reduceIte]) (by simp -dsimp (decide := true) (maxSteps := 1000000) (disch := first | omega | simp (decide := true) only [oncgb0]) only [oncgc2, ↓brun_b, envOf, reduceIte, Nat.reduceEqDiff, Nat.reduceAdd, Nat.reduceSub, Nat.reduceMul, Nat.reduceBEq, Nat.reduceLeDiff, Nat.reduceLT, Int.reduceToNat]) ?_
        refine SemOps.go (k := 1000) ?_
        simp -dsimp (decide := true) (maxSteps := 1000000) (disch := first | omega | simp (decide := true) only [oncgb0]) only [oncgb1, ↓brun_b, envOf, reduceIte, Nat.reduceEqDiff, Nat.reduceAdd, Nat.reduceSub, Nat.reduceMul, Nat.reduceBEq, Nat.reduceLeDiff, Nat.reduceLT, Int.reduceToNat, rho]
        have hr := sendDown_calls i1 pid up (nI m) (m : Int) (nI p) (p : Int) (base : Int) (got : Int) ts tx
        refine Sem.draw' (by kernel_rfl) (.one 0 (.one 1 (.one 2 (.one 3 (.one 4 (.one 5 (.one 6 (.one 7 (.alt 8 (.one 9 (.one 10 (.one 11 (.alt 12 (.alt 13 (.one 14 .done) .non) .non)))) (.alt 12 (.alt 8 (.one 9 (.one 10 (.one 11 (.alt 13 (.one 14 .done) .non)))) .non) .non)))))))))) [] (by kernel_rfl) (fun G ff hG hf => ?_)
        simp (decide := true) only [oncgb5, Nat.reduceAdd] at hG ⊢
        simp -dsimp (decide := true) (maxSteps := 1000000) (disch := first | omega | simp (decide := true) only [oncgb0]) only [oncgb1, ↓brun_b, envOf, reduceIte, Nat.reduceEqDiff, Nat.reduceAdd, Nat.reduceSub, Nat.reduceMul, Nat.reduceBEq, Nat.reduceLeDiff, Nat.reduceLT, Int.reduceToNat, rho, hG]
        (repeat' refine And.intro ?_ ?_)
        all_goals
          refine OpSem.callw [16, 17, 18] cal.f102 (hr) rfl rfl (by simp -dsimp (decide := true) (maxSteps := 1000000) (disch := first | omega | simp (decide := true) only [oncgb0]) only [oncgb2, ↓brun_b, envOf, reduceIte, Nat.reduceEqDiff, Nat.reduceAdd, Nat.reduceSub, Nat.reduceMul, Nat.reduceBEq, Nat.reduceLeDiff, Nat.reduceLT, Int.reduceToNat, rho, frz1, ↓reduceIte]) rfl (by simp -dsimp (decide := true) (maxSteps := 1000000) (disch := first | omega | simp (decide := true) only [oncgb0]) only [oncgb2, ↓brun_b, envOf, reduceIte, Nat.reduceEqDiff, Nat.reduceAdd, Nat.reduceSub, Nat.reduceMul, Nat.reduceBEq, Nat.reduceLeDiff, Nat.reduceLT, Int.reduceToNat, rho, frz1, ↓reduceIte]) (by simp -dsimp (decide := true) (maxSteps := 1000000) (disch := first | omega | simp (decide := true) only [oncgb0]) only [oncgc2, ↓brun_b, envOf, reduceIte, Nat.reduceEqDiff, Nat.reduceAdd, Nat.reduceSub, Nat.reduceMul, Nat.reduceBEq, Nat.reduceLeDiff, Nat.reduceLT, Int.reduceToNat]) ?_
          simp -dsimp (decide := true) (maxSteps := 1000000) (disch := first | omega | simp (decide := true) only [oncgb0]) only [oncgb1, ↓brun_b, envOf, reduceIte, Nat.reduceEqDiff, Nat.reduceAdd, Nat.reduceSub, Nat.reduceMul, Nat.reduceBEq, Nat.reduceLeDiff, Nat.reduceLT, Int.reduceToNat, rho, hG]
          (repeat' refine And.intro ?_ ?_)
          all_goals
            refine hf _ (Sem.go (k := 1000) ?_)
            simp (decide := true) only [back_mk, backL_in, backL_row, backL_none, backL_nil, Nat.zero_add, Nat.reduceAdd]
            simp -dsimp (decide := true) (maxSteps := 1000000) (disch := first | omega | simp (decide := true) only [oncgb0]) only [oncgb1, ↓brun_b, envOf, reduceIte, Nat.reduceEqDiff, Nat.reduceAdd, Nat.reduceSub, Nat.reduceMul, Nat.reduceBEq, Nat.reduceLeDiff, Nat.reduceLT, Int.reduceToNat, rho]
            refine SQ.fin (SQ.runL (rs := []) [0, 1, 2, 3, 4, 5, 6, 7, 8, 9, 10, 11, 12, 13, 14, 15, 16, 17, 18, 19, 20, 21, 22, 23, 24] _ _ rfl (And.intro rfl rfl) (by decide) rfl rfl ?_ ?_)
            · simp -dsimp (decide := true) (maxSteps := 1000000) (disch := first | omega | simp (decide := true) only [oncgb0]) only [oncgb2, ↓brun_b, envOf, reduceIte, Nat.reduceEqDiff, Nat.reduceAdd, Nat.reduceSub, Nat.reduceMul, Nat.reduceBEq, Nat.reduceLeDiff, Nat.reduceLT, Int.reduceToNat, rho, hz, hzz, frz1, ↓reduceIte]
            · simp -dsimp (decide := true) (maxSteps := 1000000) (disch := first | omega | simp (decide := true) only [oncgb0]) only [oncgb2, ↓brun_b, envOf, reduceIte, Nat.reduceEqDiff, Nat.reduceAdd, Nat.reduceSub, Nat.reduceMul, Nat.reduceBEq, Nat.reduceLeDiff, Nat.reduceLT, Int.reduceToNat, rho, hz, hzz, frz1, ↓reduceIte]
              exact Ent.eq rfl
      · by_cases hcl : tx.length ≤ 4096
        · rw [sendT] at hT2
          simp only [he] at hT2
          rw [if_neg (by simp; omega)] at hT2
          subst hT2
          simp only [upd_ff, upd_tt, upd_ft, upd_tf, Bool.not_false, Bool.not_true, Tk.say, he]
          have hp := pair_calls i1 pid up true (nI m) (m : Int) (nI p) (p : Int) (base : Int) (got : Int) ts
          simp -dsimp (decide := true) (maxSteps := 1000000) (disch := first | omega | simp (decide := true) only [oncgb0]) only [oncgb1, ↓brun_b, envOf, reduceIte, Nat.reduceEqDiff, Nat.reduceAdd, Nat.reduceSub, Nat.reduceMul, Nat.reduceBEq, Nat.reduceLeDiff, Nat.reduceLT, Int.reduceToNat, rho]
          refine SemOps.callw [16, 17, 18] cal.f109 (hp) rfl rfl rfl (by simp -dsimp (decide := true) (maxSteps := 1000000) (disch := first | omega | simp (decide := true) only [oncgb0]) only [oncgb2, ↓brun_b, envOf, reduceIte, Nat.reduceEqDiff, Nat.reduceAdd, Nat.reduceSub, Nat.reduceMul, Nat.reduceBEq, Nat.reduceLeDiff, Nat.reduceLT, Int.reduceToNat, rho, frz1, ↓reduceIte]) rfl (by simp -dsimp (decide := true) (maxSteps := 1000000) (disch := first | omega | simp (decide := true) only [oncgb0]) only [oncgb2, ↓brun_b, envOf, reduceIte, Nat.reduceEqDiff, Nat.reduceAdd, Nat.reduceSub, Nat.reduceMul, Nat.reduceBEq, Nat.reduceLeDiff, Nat.reduceLT, Int.reduceToNat, rho, frz1, ↓reduceIte]) (by simp -dsimp (decide := true) (maxSteps := 1000000) (disch := first | omega | simp (decide := true) only [oncgb0]) only [oncgc2, ↓brun_b, envOf, reduceIte, Nat.reduceEqDiff, Nat.reduceAdd, Nat.reduceSub, Nat.reduceMul, Nat.reduceBEq, Nat.reduceLeDiff, Nat.reduceLT, Int.reduceToNat]) ?_
          refine SemOps.go (k := 1000) ?_
          simp -dsimp (decide := true) (maxSteps := 1000000) (disch := first | omega | simp (decide := true) only [oncgb0]) only [oncgb1, ↓brun_b, envOf, reduceIte, Nat.reduceEqDiff, Nat.reduceAdd, Nat.reduceSub, Nat.reduceMul, Nat.reduceBEq, Nat.reduceLeDiff, Nat.reduceLT, Int.reduceToNat, rho]
          have hr := sendOpen_calls i1 pid up (nI m) (m : Int) (nI p) (p : Int) (got : Int) base ts tx hcl (by omega) (by omega) ((base + ts.length : Nat) : Int) rfl
          have hs := say1 i0 i1 { T with e := upd T.e true ⟨up, true, m, p, pid, base, got, ts ++ [tx]⟩, s := upd T.s true (T.s true ++ [⟨m, p, tx⟩]) } [.da m p (base + ts.length) tx] (by simp)
          have e1 : (ts ++ [tx]).length = ts.length + 1 := by simp
          have e2 : (T.s true ++ [(⟨m, p, tx⟩ : Snt)]).length = (T.s true).length + 1 := by simp
          simp only [upd_ff, upd_tt, upd_ft, upd_tf, Bool.not_false, Bool.not_true, Tk.say, e1, e2] at hs
          refine Sem.cutW [_] ⟨163, 13, [(0, .ptr 0 0 0), (3, .ptr 25 0 0), (4, .v (.int .i64 1)), (7, .ptr 26 0 0), (8, .ptr 27 0 0), (9, .ptr 29 0 0), (10, .v (.int .i64 0))], [some (.row ⟨10, 1, true, 130, fun _ => [.ptr 13 0 0, .ptr 16 0 0, .slc 19 0 (T.w false).length, .slc 20 0 (T.w true).length, .v (.int .i64 ((T.c false) : Int)), .v (.int .i64 ((T.c true) : Int)), .slc 21 0 (T.s false).length, .slc 22 0 (T.s true).length, .slc 23 0 (T.g false).length, .slc 24 0 (T.g true).length]⟩),
                none,
                none,
                none,
                none,
                none,
                none,
                none,
                none,
                none,
                none,
                none,
                none,
                some (.row ⟨39, 1, true, 204, fun _ => EC.c ⟨i0, .v (.bool (T.e false).up), .v (.bool (T.e false).op), .v (.int .i64 (nI (T.e false).m)), .v (.int .i64 ((T.e false).m : Int)), .v (.int .i64 (nI (T.e false).p)), .v (.int .i64 ((T.e false).p : Int)), (T.e false).pid, .ptr 14 0 0⟩⟩),
                some (.row ⟨3, 1, true, 197, fun _ => [.v (.int .i64 ((T.e false).base : Int)), .slc 15 0 (T.e false).ts.length, .v (.int .i64 ((T.e false).got : Int))]⟩),
                some (.row ⟨1, (T.e false).ts.length, true, 35, trow (T.e false).ts⟩),
                some (.row ⟨39, 1, true, 204, fun _ => EC.c ⟨i1, .v (.bool (⟨up, true, m, p, pid, base, got, ts⟩ : En).up), .v (.bool (⟨up, true, m, p, pid, base, got, ts⟩ : En).op), .v (.int .i64 (nI (⟨up, true, m, p, pid, base, got, ts⟩ : En).m)), .v (.int .i64 ((⟨up, true, m, p, pid, base, got, ts⟩ : En).m : Int)), .v (.int .i64 (nI (⟨up, true, m, p, pid, base, got, ts⟩ : En).p)), .v (.int .i64 ((⟨up, true, m, p, pid, base, got, ts⟩ : En).p : Int)), (⟨up, true, m, p, pid, base, got, ts⟩ : En).pid, .ptr 17 0 0⟩⟩),
                some (.row ⟨3, 1, true, 197, fun _ => [.v (.int .i64 (base : Int)), .slc 28 0 (ts.length + 1), .v (.int .i64 (got : Int))]⟩),
                none,
                some (.row ⟨95, (T.w false).length, true, 151, wrow (T.w false)⟩),
                some (.row ⟨95, (T.w true).length, true, 151, wrow (T.w true)⟩),
                some (.row ⟨5, (T.s false).length, true, 137, srow (T.s false)⟩),
                some (.row ⟨5, (T.s true).length, true, 137, srow (T.s true)⟩),
                some (.row ⟨5, (T.g false).length, true, 137, srow (T.g false)⟩),
                some (.row ⟨5, (T.g true).length, true, 137, srow (T.g true)⟩),
                some (.row ⟨4, 1, true, 132, fun _ => [.v (.int .i64 kd), .v (.int .i64 sd), .v (.int .i64 ii), bsl tx]⟩),
                some (.row ⟨2, 1, true, 135, fun _ => [.v (.int .i64 (nI m)), .v (.int .i64 (m : Int))]⟩),
                some (.row ⟨2, 1, true, 135, fun _ => [.v (.int .i64 (nI p)), .v (.int .i64 (p : Int))]⟩),
                some (.row ⟨1, ts.length + 1, true, 35, trow (ts ++ [tx])⟩),
                some (.row ⟨95, 1, true, 151, fun _ => FC.c { zF with kind := .v (.int .i64 2), fi := .v (.int .i64 (nI m)), fn := .v (.int .i64 (m : Int)), ti := .v (.int .i64 (nI p)), tn := .v (.int .i64 (p : Int)), n := .v (.int .i64 ((base + ts.length : Nat) : Int)), tx := bsl tx }⟩)]⟩ ?_ ?_
          · refine Sem.draw' (by kernel_rfl) (.one 0 (.one 1 (.one 2 (.one 3 (.one 4 (.one 5 (.one 6 (.one 7 (.alt 8 (.one 9 (.one 10 (.one 11 (.alt 12 (.alt 13 (.one 14 .done) .non) .non)))) (.alt 12 (.alt 8 (.one 9 (.one 10 (.one 11 (.alt 13 (.one 14 .done) .non)))) .non) .non)))))))))) [17, 18] (by kernel_rfl) (fun G ff hG hf => ?_)
            simp (decide := true) only [oncgb5, Nat.reduceAdd] at hG ⊢
            simp -dsimp (decide := true) (maxSteps := 1000000) (disch := first | omega | simp (decide := true) only [oncgb0]) only [oncgb1, ↓brun_b, envOf, reduceIte, Nat.reduceEqDiff, Nat.reduceAdd, Nat.reduceSub, Nat.reduceMul, Nat.reduceBEq, Nat.reduceLeDiff, Nat.reduceLT, Int.reduceToNat, rho, hG]
            (repeat' refine And.intro ?_ ?_)
            all_goals
              refine OpSem.callw [16, 17, 18] cal.f102 (hr) rfl rfl (by simp -dsimp (decide := true) (maxSteps := 1000000) (disch := first | omega | simp (decide := true) only [oncgb0]) only [oncgb2, ↓brun_b, envOf, reduceIte, Nat.reduceEqDiff, Nat.reduceAdd, Nat.reduceSub, Nat.reduceMul, Nat.reduceBEq, Nat.reduceLeDiff, Nat.reduceLT, Int.reduceToNat, rho, frz1, ↓reduceIte]) rfl (by simp -dsimp (decide := true) (maxSteps := 1000000) (disch := first | omega | simp (decide := true) only [oncgb0]) only [oncgb2, ↓brun_b, envOf, reduceIte, Nat.reduceEqDiff, Nat.reduceAdd, Nat.reduceSub, Nat.reduceMul, Nat.reduceBEq, Nat.reduceLeDiff, Nat.reduceLT, Int.reduceToNat, rho, frz1, ↓reduceIte]) (by simp -dsimp (decide := true) (maxSteps := 1000000) (disch := first | omega | simp (decide := true) only [oncgb0]) only [oncgc2, ↓brun_b, envOf, reduceIte, Nat.reduceEqDiff, Nat.reduceAdd, Nat.reduceSub, Nat.reduceMul, Nat.reduceBEq, Nat.reduceLeDiff, Nat.reduceLT, Int.reduceToNat]) ?_
              simp -dsimp (decide := true) (maxSteps := 1000000) (disch := first | omega | simp (decide := true) only [oncgb0]) only [oncgb1, ↓brun_b, envOf, reduceIte, Nat.reduceEqDiff, Nat.reduceAdd, Nat.reduceSub, Nat.reduceMul, Nat.reduceBEq, Nat.reduceLeDiff, Nat.reduceLT, Int.reduceToNat, rho, hG]
              (repeat' refine And.intro ?_ ?_)
              all_goals
                refine hf _ (Sem.go (k := 1000) ?_)
                simp (decide := true) only [back_mk, backL_in, backL_row, backL_none, backL_nil, Nat.zero_add, Nat.reduceAdd]
                simp only [lapp_nil]
                simp -dsimp (decide := true) (maxSteps := 1000000) (disch := first | omega | simp (decide := true) only [oncgb0]) only [oncgb1, ↓brun_b, envOf, reduceIte, Nat.reduceEqDiff, Nat.reduceAdd, Nat.reduceSub, Nat.reduceMul, Nat.reduceBEq, Nat.reduceLeDiff, Nat.reduceLT, Int.reduceToNat, rho]
                first
                | (refine ⟨[0, 1, 2, 3, 4, 5, 6, 7, 8, 9, 10, 11, 12, 13, 14, 15, 16, 17, 18, 19, 20, 21, 22, 23, 24, 25, 26, 27, 28, 29], ?_⟩
                   (refine Wk.ofC ?_; simp -dsimp (decide := true) (maxSteps := 1000000) (disch := first | omega | simp (decide := true) only [oncgb0]) only [oncgb6, ↓brun_b, envOf, reduceIte, Nat.reduceEqDiff, Nat.reduceAdd, Nat.reduceSub, Nat.reduceMul, Nat.reduceBEq, Nat.reduceLeDiff, Nat.reduceLT, Int.reduceToNat, rho, frz1, ↓reduceIte])
                   done)
                | (refine ⟨[0, 1, 2, 3, 4, 5, 6, 7, 8, 9, 10, 11, 12, 13, 14, 15, 16, 17, 18, 19, 20, 21, 22, 23, 24, 25, 26, 27, 29, 28], ?_⟩
                   (refine Wk.ofC ?_; simp -dsimp (decide := true) (maxSteps := 1000000) (disch := first | omega | simp (decide := true) only [oncgb0]) only [oncgb6, ↓brun_b, envOf, reduceIte, Nat.reduceEqDiff, Nat.reduceAdd, Nat.reduceSub, Nat.reduceMul, Nat.reduceBEq, Nat.reduceLeDiff, Nat.reduceLT, Int.reduceToNat, rho, frz1, ↓reduceIte])
                   done)
          · refine Sem.go (k := 1000) ?_
            simp -dsimp (decide := true) (maxSteps := 1000000) (disch := first | omega | simp (decide := true) only [oncgb0]) only [oncgb1, ↓brun_b, envOf, reduceIte, Nat.reduceEqDiff, Nat.reduceAdd, Nat.reduceSub, Nat.reduceMul, Nat.reduceBEq, Nat.reduceLeDiff, Nat.reduceLT, Int.reduceToNat, rho]
            refine Sem.draw' (by kernel_rfl) (.one 0 (.one 1 (.one 2 (.one 3 (.one 4 (.one 5 (.one 6 (.one 8 (.one 9 (.one 10 (.one 11 (.one 12 (.one 13 (.one 16 (.one 17 (.alt 7 (.alt 14 (.alt 15 (.one 18 (.alt 19 .done .non)) .non) .non) (.alt 14 (.alt 7 (.alt 15 (.one 18 (.alt 19 .done .non)) .non) .non) .non))))))))))))))))) [0, 22] (by kernel_rfl) (fun G ff hG hf => ?_)
            simp (decide := true) only [oncgb5, Nat.reduceAdd] at hG ⊢
            simp -dsimp (decide := true) (maxSteps := 1000000) (disch := first | omega | simp (decide := true) only [oncgb0]) only [oncgb7, ↓brun_b, envOf, reduceIte, Nat.reduceEqDiff, Nat.reduceAdd, Nat.reduceSub, Nat.reduceMul, Nat.reduceBEq, Nat.reduceLeDiff, Nat.reduceLT, Int.reduceToNat, rho, hG, sapp1_sl el137]
            (repeat' refine And.intro ?_ ?_)
            all_goals try omega
            all_goals
              refine hf _ (Sem.go (k := 1000) ?_)
              simp (decide := true) only [back_mk, backL_in, backL_row, backL_none, backL_nil, Nat.zero_add, Nat.reduceAdd]
              simp -dsimp (decide := true) (maxSteps := 1000000) (disch := first | omega | simp (decide := true) only [oncgb0]) only [oncgb8, ↓brun_b, envOf, reduceIte, Nat.reduceEqDiff, Nat.reduceAdd, Nat.reduceSub, Nat.reduceMul, Nat.reduceBEq, Nat.reduceLeDiff, Nat.reduceLT, Int.reduceToNat, rho]
              refine SemOps.frz (d := 124) (frows ([Ms.da m p (base + ts.length) tx].map Ms.frm)) rfl rfl rfl (Nat.le_refl 1) (frows1_ent2 _ (daF_ent _ _ _ _ _ _)) ?_
              refine SemOps.weakenM (s' := ⟨163, 13, [(121, .ptr 0 0 0), (122, .v (.int .i64 1)), (124, .rsl 95 (frows ([Ms.da m p (base + ts.length) tx].map Ms.frm)))], [some (.row ⟨10, 1, true, 130, fun _ => [.ptr 13 0 0, .ptr 16 0 0, .slc 19 0 (T.w false).length, .slc 20 0 (T.w true).length, .v (.int .i64 ((T.c false) : Int)), .v (.int .i64 ((T.c true) : Int)), .slc 21 0 (T.s false).length, .slc 27 0 (T.s true ++ [(⟨m, p, tx⟩ : Snt)]).length, .slc 23 0 (T.g false).length, .slc 24 0 (T.g true).length]⟩),
                none,
                none,
                none,
                none,
                none,
                none,
                none,
                none,
                none,
                none,
                none,
                none,
                some (.row ⟨39, 1, true, 204, fun _ => EC.c ⟨i0, .v (.bool (T.e false).up), .v (.bool (T.e false).op), .v (.int .i64 (nI (T.e false).m)), .v (.int .i64 ((T.e false).m : Int)), .v (.int .i64 (nI (T.e false).p)), .v (.int .i64 ((T.e false).p : Int)), (T.e false).pid, .ptr 14 0 0⟩⟩),
                some (.row ⟨3, 1, true, 197, fun _ => [.v (.int .i64 ((T.e false).base : Int)), .slc 15 0 (T.e false).ts.length, .v (.int .i64 ((T.e false).got : Int))]⟩),
                some (.row ⟨1, (T.e false).ts.length, true, 35, trow (T.e false).ts⟩),
                some (.row ⟨39, 1, true, 204, fun _ => EC.c ⟨i1, .v (.bool (⟨up, true, m, p, pid, base, got, ts⟩ : En).up), .v (.bool (⟨up, true, m, p, pid, base, got, ts⟩ : En).op), .v (.int .i64 (nI (⟨up, true, m, p, pid, base, got, ts⟩ : En).m)), .v (.int .i64 ((⟨up, true, m, p, pid, base, got, ts⟩ : En).m : Int)), .v (.int .i64 (nI (⟨up, true, m, p, pid, base, got, ts⟩ : En).p)), .v (.int .i64 ((⟨up, true, m, p, pid, base, got, ts⟩ : En).p : Int)), (⟨up, true, m, p, pid, base, got, ts⟩ : En).pid, .ptr 17 0 0⟩⟩),
                some (.row ⟨3, 1, true, 197, fun _ => [.v (.int .i64 (base : Int)), .slc 26 0 (ts.length + 1), .v (.int .i64 (got : Int))]⟩),
                none,
                some (.row ⟨95, (T.w false).length, true, 151, wrow (T.w false)⟩),
                some (.row ⟨95, (T.w true).length, true, 151, wrow (T.w true)⟩),
                some (.row ⟨5, (T.s false).length, true, 137, srow (T.s false)⟩),
                none,
                some (.row ⟨5, (T.g false).length, true, 137, srow (T.g false)⟩),
                some (.row ⟨5, (T.g true).length, true, 137, srow (T.g true)⟩),
                some (.row ⟨4, 1, true, 132, fun _ => [.v (.int .i64 kd), .v (.int .i64 sd), .v (.int .i64 ii), bsl tx]⟩),
                some (.row ⟨1, ts.length + 1, true, 35, trow (ts ++ [tx])⟩),
                some (.row ⟨5, (T.s true ++ [(⟨m, p, tx⟩ : Snt)]).length, true, 137, srow (T.s true ++ [(⟨m, p, tx⟩ : Snt)])⟩)]⟩) [0, 1, 2, 3, 4, 5, 6, 7, 8, 9, 10, 11, 12, 13, 14, 15, 16, 17, 18, 19, 20, 21, 22, 23, 24, 25, 28, 31] ⟨rfl, rfl, rfl, rfl, rfl, rfl, ?_, ?_⟩ ?_
              · simp -dsimp (decide := true) (maxSteps := 1000000) (disch := first | omega | simp (decide := true) only [oncgb0]) only [oncgb2, ↓brun_b, envOf, reduceIte, Nat.reduceEqDiff, Nat.reduceAdd, Nat.reduceSub, Nat.reduceMul, Nat.reduceBEq, Nat.reduceLeDiff, Nat.reduceLT, Int.reduceToNat, rho, frz1, ↓reduceIte]
              · simp -dsimp (decide := true) (maxSteps := 1000000) (disch := first | omega | simp (decide := true) only [oncgb0]) only [oncgb2, ↓brun_b, envOf, reduceIte, Nat.reduceEqDiff, Nat.reduceAdd, Nat.reduceSub, Nat.reduceMul, Nat.reduceBEq, Nat.reduceLeDiff, Nat.reduceLT, Int.reduceToNat, rho, e2, frz1, ↓reduceIte]
                exact fun e he => app_srow _ ⟨m, p, tx⟩ e he
              refine SemOps.callw [0, 13, 14, 15, 16, 17, 26, 19, 20, 21, 27, 23, 24] cal.f134 (hs) rfl rfl rfl (by simp -dsimp (decide := true) (maxSteps := 1000000) (disch := first | omega | simp (decide := true) only [oncgb0]) only [oncgb2, ↓brun_b, envOf, reduceIte, Nat.reduceEqDiff, Nat.reduceAdd, Nat.reduceSub, Nat.reduceMul, Nat.reduceBEq, Nat.reduceLeDiff, Nat.reduceLT, Int.reduceToNat, rho, e2, frz1, ↓reduceIte]) rfl (by simp -dsimp (decide := true) (maxSteps := 1000000) (disch := first | omega | simp (decide := true) only [oncgb0]) only [oncgb2, ↓brun_b, envOf, reduceIte, Nat.reduceEqDiff, Nat.reduceAdd, Nat.reduceSub, Nat.reduceMul, Nat.reduceBEq, Nat.reduceLeDiff, Nat.reduceLT, Int.reduceToNat, rho, e2, frz1, ↓reduceIte]) (by simp -dsimp (decide := true) (maxSteps := 1000000) (disch := first | omega | simp (decide := true) only [oncgb0]) only [oncgc2, ↓brun_b, envOf, reduceIte, Nat.reduceEqDiff, Nat.reduceAdd, Nat.reduceSub, Nat.reduceMul, Nat.reduceBEq, Nat.reduceLeDiff, Nat.reduceLT, Int.reduceToNat]) ?_
              refine SemOps.go (k := 1000) ?_
              simp -dsimp (decide := true) (maxSteps := 1000000) (disch := first | omega | simp (decide := true) only [oncgb0]) only [oncgb1, ↓brun_b, envOf, reduceIte, Nat.reduceEqDiff, Nat.reduceAdd, Nat.reduceSub, Nat.reduceMul, Nat.reduceBEq, Nat.reduceLeDiff, Nat.reduceLT, Int.reduceToNat, rho, e2]
              refine SQ.fin (SQ.runL (rs := []) [0, 1, 2, 3, 4, 5, 6, 7, 8, 9, 10, 11, 12, 13, 14, 15, 16, 17, 26, 28, 20, 21, 27, 23, 24] _ _ rfl (And.intro rfl rfl) (by decide) rfl rfl ?_ ?_)
              · simp -dsimp (decide := true) (maxSteps := 1000000) (disch := first | omega | simp (decide := true) only [oncgb0]) only [oncgb2, ↓brun_b, envOf, reduceIte, Nat.reduceEqDiff, Nat.reduceAdd, Nat.reduceSub, Nat.reduceMul, Nat.reduceBEq, Nat.reduceLeDiff, Nat.reduceLT, Int.reduceToNat, rho, hz, hzz, e1, e2, frz1, ↓reduceIte]
              · simp -dsimp (decide := true) (maxSteps := 1000000) (disch := first | omega | simp (decide := true) only [oncgb0]) only [oncgb2, ↓brun_b, envOf, reduceIte, Nat.reduceEqDiff, Nat.reduceAdd, Nat.reduceSub, Nat.reduceMul, Nat.reduceBEq, Nat.reduceLeDiff, Nat.reduceLT, Int.reduceToNat, rho, hz, hzz, e1, e2, frz1, ↓reduceIte]
                exact Ent.eq rfl
        · rw [sendT] at hT2
          simp only [he] at hT2
          rw [if_pos (by right; omega)] at hT2
          subst hT2
          simp only [he]
          have hp := pair_calls i1 pid up true (nI m) (m : Int) (nI p) (p : Int) (base : Int) (got : Int) ts
          simp -dsimp (decide := true) (maxSteps := 1000000) (disch := first | omega | simp (decide := true) only [oncgb0]) only [oncgb1, ↓brun_b, envOf, reduceIte, Nat.reduceEqDiff, Nat.reduceAdd, Nat.reduceSub, Nat.reduceMul, Nat.reduceBEq, Nat.reduceLeDiff, Nat.reduceLT, Int.reduceToNat, rho]
          refine SemOps.callw [16, 17, 18] cal.f109 (hp) rfl rfl rfl (by simp -dsimp (decide := true) (maxSteps := 1000000) (disch := first | omega | simp (decide := true) only [oncgb0]) only [oncgb2, ↓brun_b, envOf, reduceIte, Nat.reduceEqDiff, Nat.reduceAdd, Nat.reduceSub, Nat.reduceMul, Nat.reduceBEq, Nat.reduceLeDiff, Nat.reduceLT, Int.reduceToNat, rho, frz1, ↓reduceIte]) rfl (by simp -dsimp (decide := true) (maxSteps := 1000000) (disch := first | omega | simp (decide := true) only [oncgb0]) only [oncgb2, ↓brun_b, envOf, reduceIte, Nat.reduceEqDiff, Nat.reduceAdd, Nat.reduceSub, Nat.reduceMul, Nat.reduceBEq, Nat.reduceLeDiff, Nat.reduceLT, Int.reduceToNat, rho, frz1, ↓reduceIte]) (by simp -dsimp (decide := true) (maxSteps := 1000000) (disch := first | omega | simp (decide := true) only [oncgb0]) only [oncgc2, ↓brun_b, envOf, reduceIte, Nat.reduceEqDiff, Nat.reduceAdd, Nat.reduceSub, Nat.reduceMul, Nat.reduceBEq, Nat.reduceLeDiff, Nat.reduceLT, Int.reduceToNat]) ?_
          refine SemOps.go (k := 1000) ?_
          simp -dsimp (decide := true) (maxSteps := 1000000) (disch := first | omega | simp (decide := true) only [oncgb0]) only [oncgb1, ↓brun_b, envOf, reduceIte, Nat.reduceEqDiff, Nat.reduceAdd, Nat.reduceSub, Nat.reduceMul, Nat.reduceBEq, Nat.reduceLeDiff, Nat.reduceLT, Int.reduceToNat, rho]
          have hr := sendLong_calls i1 pid up (nI m) (m : Int) (nI p) (p : Int) (base : Int) (got : Int) ts tx (by omega)
          refine Sem.draw' (by kernel_rfl) (.one 0 (.one 1 (.one 2 (.one 3 (.one 4 (.one 5 (.one 6 (.one 7 (.alt 8 (.one 9 (.one 10 (.one 11 (.alt 12 (.alt 13 (.one 14 .done) .non) .non)))) (.alt 12 (.alt 8 (.one 9 (.one 10 (.one 11 (.alt 13 (.one 14 .done) .non)))) .non) .non)))))))))) [] (by kernel_rfl) (fun G ff hG hf => ?_)
          simp (decide := true) only [oncgb5, Nat.reduceAdd] at hG ⊢
          simp -dsimp (decide := true) (maxSteps := 1000000) (disch := first | omega | simp (decide := true) only [oncgb0]) only [oncgb1, ↓brun_b, envOf, reduceIte, Nat.reduceEqDiff, Nat.reduceAdd, Nat.reduceSub, Nat.reduceMul, Nat.reduceBEq, Nat.reduceLeDiff, Nat.reduceLT, Int.reduceToNat, rho, hG]
          (repeat' refine And.intro ?_ ?_)
          all_goals
            refine OpSem.callw [16, 17, 18] cal.f102 (hr) rfl rfl (by simp -dsimp (decide := true) (maxSteps := 1000000) (disch := first | omega | simp (decide := true) only [oncgb0]) only [oncgb2, ↓brun_b, envOf, reduceIte, Nat.reduceEqDiff, Nat.reduceAdd, Nat.reduceSub, Nat.reduceMul, Nat.reduceBEq, Nat.reduceLeDiff, Nat.reduceLT, Int.reduceToNat, rho, frz1, ↓reduceIte]) rfl (by simp -dsimp (decide := true) (maxSteps := 1000000) (disch := first | omega | simp (decide := true) only [oncgb0]) only [oncgb2, ↓brun_b, envOf, reduceIte, Nat.reduceEqDiff, Nat.reduceAdd, Nat.reduceSub, Nat.reduceMul, Nat.reduceBEq, Nat.reduceLeDiff, Nat.reduceLT, Int.reduceToNat, rho, frz1, ↓reduceIte]) (by simp -dsimp (decide := true) (maxSteps := 1000000) (disch := first | omega | simp (decide := true) only [oncgb0]) only [oncgc2, ↓brun_b, envOf, reduceIte, Nat.reduceEqDiff, Nat.reduceAdd, Nat.reduceSub, Nat.reduceMul, Nat.reduceBEq, Nat.reduceLeDiff, Nat.reduceLT, Int.reduceToNat]) ?_
            simp -dsimp (decide := true) (maxSteps := 1000000) (disch := first | omega | simp (decide := true) only [oncgb0]) only [oncgb1, ↓brun_b, envOf, reduceIte, Nat.reduceEqDiff, Nat.reduceAdd, Nat.reduceSub, Nat.reduceMul, Nat.reduceBEq, Nat.reduceLeDiff, Nat.reduceLT, Int.reduceToNat, rho, hG]
            (repeat' refine And.intro ?_ ?_)
            all_goals
              refine hf _ (Sem.go (k := 1000) ?_)
              simp (decide := true) only [back_mk, backL_in, backL_row, backL_none, backL_nil, Nat.zero_add, Nat.reduceAdd]
              simp -dsimp (decide := true) (maxSteps := 1000000) (disch := first | omega | simp (decide := true) only [oncgb0]) only [oncgb1, ↓brun_b, envOf, reduceIte, Nat.reduceEqDiff, Nat.reduceAdd, Nat.reduceSub, Nat.reduceMul, Nat.reduceBEq, Nat.reduceLeDiff, Nat.reduceLT, Int.reduceToNat, rho]
              refine SQ.fin (SQ.runL (rs := []) [0, 1, 2, 3, 4, 5, 6, 7, 8, 9, 10, 11, 12, 13, 14, 15, 16, 17, 18, 19, 20, 21, 22, 23, 24] _ _ rfl (And.intro rfl rfl) (by decide) rfl rfl ?_ ?_)
              · simp -dsimp (decide := true) (maxSteps := 1000000) (disch := first | omega | simp (decide := true) only [oncgb0]) only [oncgb2, ↓brun_b, envOf, reduceIte, Nat.reduceEqDiff, Nat.reduceAdd, Nat.reduceSub, Nat.reduceMul, Nat.reduceBEq, Nat.reduceLeDiff, Nat.reduceLT, Int.reduceToNat, rho, hz, hzz, frz1, ↓reduceIte]
              · simp -dsimp (decide := true) (maxSteps := 1000000) (disch := first | omega | simp (decide := true) only [oncgb0]) only [oncgb2, ↓brun_b, envOf, reduceIte, Nat.reduceEqDiff, Nat.reduceAdd, Nat.reduceSub, Nat.reduceMul, Nat.reduceBEq, Nat.reduceLeDiff, Nat.reduceLT, Int.reduceToNat, rho, hz, hzz, frz1, ↓reduceIte]
                exact Ent.eq rfl
    have hk3 : ¬ kd = 3 := by simpa using h3
    simp -dsimp (decide := true) (maxSteps := 1000000) (disch := first | omega | simp (decide := true) only [oncgb0]) only [oncgb1, ↓brun_b, envOf, reduceIte, Nat.reduceEqDiff, Nat.reduceAdd, Nat.reduceSub, Nat.reduceMul, Nat.reduceBEq, Nat.reduceLeDiff, Nat.reduceLT, Int.reduceToNat, rho]
    refine SCond.split (fun h4 => ?_) (fun h4 => ?_)
    · have hk4 : kd = 4 := by simpa using h4
      by_cases hn0 : (T.w true).length = 0
      · have hT2 : T' = T := by rw [hT, playT, if_neg hk0, if_neg hk1, if_neg hk2, if_neg hk3, if_pos hn0]
        clear hT
        subst hT2
        rw [if_pos hn0] at hiv
        simp -dsimp (decide := true) (maxSteps := 1000000) (disch := first | omega | simp (decide := true) only [oncgb0]) only [oncgb1, ↓brun_b, envOf, reduceIte, Nat.reduceEqDiff, Nat.reduceAdd, Nat.reduceSub, Nat.reduceMul, Nat.reduceBEq, Nat.reduceLeDiff, Nat.reduceLT, Int.reduceToNat, rho, hiv]
        refine SQ.fin (SQ.runL (rs := []) [0, 1, 2, 3, 4, 5, 6, 7, 8, 9, 10, 11, 12, 13, 14, 15, 16, 17, 18, 19, 20, 21, 22, 23, 24] _ _ rfl (And.intro rfl rfl) (by decide) rfl rfl ?_ ?_)
        · simp -dsimp (decide := true) (maxSteps := 1000000) (disch := first | omega | simp (decide := true) only [oncgb0]) only [oncgb2, ↓brun_b, envOf, reduceIte, Nat.reduceEqDiff, Nat.reduceAdd, Nat.reduceSub, Nat.reduceMul, Nat.reduceBEq, Nat.reduceLeDiff, Nat.reduceLT, Int.reduceToNat, rho, hz, hzz, frz1, ↓reduceIte]
        · simp -dsimp (decide := true) (maxSteps := 1000000) (disch := first | omega | simp (decide := true) only [oncgb0]) only [oncgb2, ↓brun_b, envOf, reduceIte, Nat.reduceEqDiff, Nat.reduceAdd, Nat.reduceSub, Nat.reduceMul, Nat.reduceBEq, Nat.reduceLeDiff, Nat.reduceLT, Int.reduceToNat, rho, hz, hzz, frz1, ↓reduceIte]
          exact Ent.eq rfl
      · rw [if_neg hn0] at hiv
        obtain ⟨hi1, hi2⟩ := hidx (by omega)
        have hT2 : T' = comeT i1 T true ((T.w true).getD i (.ak 0 0 0)) (restOf (T.w true) i) := by rw [hT, playT, if_neg hk0, if_neg hk1, if_neg hk2, if_neg hk3, if_neg hn0, if_pos hk4]
        clear hT
        have hfm : (T.w true).getD i (.ak 0 0 0) ∈ (T.w true) := by
          rw [List.getD_eq_getElem?_getD, List.getElem?_eq_getElem hi2, Option.getD_some]
          exact List.getElem_mem hi2
        generalize hf : (T.w true).getD i (.ak 0 0 0) = f at *
        rcases hx : hear i1 (T.e true) f (T.c true + 1) with ⟨e', ot, out⟩
        have hout : out.length ≤ 1 := by have := hear_len i1 (T.e true) f (T.c true + 1); rw [hx] at this; exact this
        have hc2 := come1 i0 i1 T i f hi2 hf hwl (by omega) (by omega) (by omega) (hda f hfm) (hak f hfm) (by omega) (by omega) e' ot out hx (by omega) _ rfl _ rfl
        rw [comeT_eq] at hT2
        simp only [hx] at hT2
        generalize hcc : (if e'.m = (T.e true).m then T.c true else T.c true + 1) = c' at *
        generalize hgg : addG (T.g true) e'.m e'.p ot = g' at *
        subst hT2
        simp only [upd_ff, upd_tt, upd_ft, upd_tf, Bool.not_false, Bool.not_true, Tk.say]
        simp -dsimp (decide := true) (maxSteps := 1000000) (disch := first | omega | simp (decide := true) only [oncgb0]) only [oncgb1, ↓brun_b, envOf, reduceIte, Nat.reduceEqDiff, Nat.reduceAdd, Nat.reduceSub, Nat.reduceMul, Nat.reduceBEq, Nat.reduceLeDiff, Nat.reduceLT, Int.reduceToNat, rho, hiv, hwiv]
        refine SemOps.callw [0, 13, 14, 15, 16, 17, 18, 19, 20, 21, 22, 23, 24] cal.f135 (hc2) rfl rfl rfl (by simp -dsimp (decide := true) (maxSteps := 1000000) (disch := first | omega | simp (decide := true) only [oncgb0]) only [oncgb2, ↓brun_b, envOf, reduceIte, Nat.reduceEqDiff, Nat.reduceAdd, Nat.reduceSub, Nat.reduceMul, Nat.reduceBEq, Nat.reduceLeDiff, Nat.reduceLT, Int.reduceToNat, rho, frz1, ↓reduceIte]) rfl (by simp -dsimp (decide := true) (maxSteps := 1000000) (disch := first | omega | simp (decide := true) only [oncgb0]) only [oncgb2, ↓brun_b, envOf, reduceIte, Nat.reduceEqDiff, Nat.reduceAdd, Nat.reduceSub, Nat.reduceMul, Nat.reduceBEq, Nat.reduceLeDiff, Nat.reduceLT, Int.reduceToNat, rho, frz1, ↓reduceIte]) (by simp -dsimp (decide := true) (maxSteps := 1000000) (disch := first | omega | simp (decide := true) only [oncgb0]) only [oncgc2, ↓brun_b, envOf, reduceIte, Nat.reduceEqDiff, Nat.reduceAdd, Nat.reduceSub, Nat.reduceMul, Nat.reduceBEq, Nat.reduceLeDiff, Nat.reduceLT, Int.reduceToNat]) ?_
        refine SemOps.go (k := 1000) ?_
        simp -dsimp (decide := true) (maxSteps := 1000000) (disch := first | omega | simp (decide := true) only [oncgb0]) only [oncgb1, ↓brun_b, envOf, reduceIte, Nat.reduceEqDiff, Nat.reduceAdd, Nat.reduceSub, Nat.reduceMul, Nat.reduceBEq, Nat.reduceLeDiff, Nat.reduceLT, Int.reduceToNat, rho]
        refine SQ.fin (SQ.runL (rs := []) [0, 1, 2, 3, 4, 5, 6, 7, 8, 9, 10, 11, 12, 13, 14, 15, 16, 26, 27, 29, 28, 21, 22, 23, 30] _ _ rfl (And.intro rfl rfl) (by decide) rfl rfl ?_ ?_)
        · simp -dsimp (decide := true) (maxSteps := 1000000) (disch := first | omega | simp (decide := true) only [oncgb0]) only [oncgb2, ↓brun_b, envOf, reduceIte, Nat.reduceEqDiff, Nat.reduceAdd, Nat.reduceSub, Nat.reduceMul, Nat.reduceBEq, Nat.reduceLeDiff, Nat.reduceLT, Int.reduceToNat, rho, hz, hzz, frz1, ↓reduceIte]
        · simp -dsimp (decide := true) (maxSteps := 1000000) (disch := first | omega | simp (decide := true) only [oncgb0]) only [oncgb2, ↓brun_b, envOf, reduceIte, Nat.reduceEqDiff, Nat.reduceAdd, Nat.reduceSub, Nat.reduceMul, Nat.reduceBEq, Nat.reduceLeDiff, Nat.reduceLT, Int.reduceToNat, rho, hz, hzz, frz1, ↓reduceIte]
          exact Ent.eq rfl
    have hk4 : ¬ kd = 4 := by simpa using h4
    simp -dsimp (decide := true) (maxSteps := 1000000) (disch := first | omega | simp (decide := true) only [oncgb0]) only [oncgb1, ↓brun_b, envOf, reduceIte, Nat.reduceEqDiff, Nat.reduceAdd, Nat.reduceSub, Nat.reduceMul, Nat.reduceBEq, Nat.reduceLeDiff, Nat.reduceLT, Int.reduceToNat, rho]
    refine SCond.split (fun h5 => ?_) (fun h5 => ?_)
    · have hk5 : kd = 5 := by simpa using h5
      by_cases hn0 : (T.w true).length = 0
      · have hT2 : T' = T := by rw [hT, playT, if_neg hk0, if_neg hk1, if_neg hk2, if_neg hk3, if_pos hn0]
        clear hT
        subst hT2
        rw [if_pos hn0] at hiv
        simp -dsimp (decide := true) (maxSteps := 1000000) (disch := first | omega | simp (decide := true) only [oncgb0]) only [oncgb1, ↓brun_b, envOf, reduceIte, Nat.reduceEqDiff, Nat.reduceAdd, Nat.reduceSub, Nat.reduceMul, Nat.reduceBEq, Nat.reduceLeDiff, Nat.reduceLT, Int.reduceToNat, rho, hiv]
        refine SQ.fin (SQ.runL (rs := []) [0, 1, 2, 3, 4, 5, 6, 7, 8, 9, 10, 11, 12, 13, 14, 15, 16, 17, 18, 19, 20, 21, 22, 23, 24] _ _ rfl (And.intro rfl rfl) (by decide) rfl rfl ?_ ?_)
        · simp -dsimp (decide := true) (maxSteps := 1000000) (disch := first | omega | simp (decide := true) only [oncgb0]) only [oncgb2, ↓brun_b, envOf, reduceIte, Nat.reduceEqDiff, Nat.reduceAdd, Nat.reduceSub, Nat.reduceMul, Nat.reduceBEq, Nat.reduceLeDiff, Nat.reduceLT, Int.reduceToNat, rho, hz, hzz, frz1, ↓reduceIte]
        · simp -dsimp (decide := true) (maxSteps := 1000000) (disch := first | omega | simp (decide := true) only [oncgb0]) only [oncgb2, ↓brun_b, envOf, reduceIte, Nat.reduceEqDiff, Nat.reduceAdd, Nat.reduceSub, Nat.reduceMul, Nat.reduceBEq, Nat.reduceLeDiff, Nat.reduceLT, Int.reduceToNat, rho, hz, hzz, frz1, ↓reduceIte]
          exact Ent.eq rfl
      · rw [if_neg hn0] at hiv
        obtain ⟨hi1, hi2⟩ := hidx (by omega)
        have hT2 : T' = { T with w := upd T.w true (restOf (T.w true) i) } := by rw [hT, playT, if_neg hk0, if_neg hk1, if_neg hk2, if_neg hk3, if_neg hn0, if_neg hk4, if_pos hk5]
        clear hT
        subst hT2
        simp only [upd_ff, upd_tt, upd_ft, upd_tf, Bool.not_false, Bool.not_true, Tk.say]
        have hrl := restOf_len (T.w true) i hi2
        have hre := fun fz ρ => @restOf_ent fz ρ (T.w true) i hi2 []
        generalize hw : (T.w true) = w0 at *
        have hwi : IntKind.i64.wrap ((i : Int) + 1) = ((i + 1 : Nat) : Int) := by rw [wrap_i64 _ (by omega)]; rfl
        have ht1 : ((i : Int) - 0).toNat = i := by omega
        have ht2 : ((w0.length : Int) - ((i + 1 : Nat) : Int)).toNat = w0.length - (i + 1) := by omega
        simp -dsimp (decide := true) (maxSteps := 1000000) (disch := first | omega | simp (decide := true) only [oncgb0]) only [oncgb1, ↓brun_b, envOf, reduceIte, Nat.reduceEqDiff, Nat.reduceAdd, Nat.reduceSub, Nat.reduceMul, Nat.reduceBEq, Nat.reduceLeDiff, Nat.reduceLT, Int.reduceToNat, rho, hiv, hwiv]
        refine Sem.draw' (by kernel_rfl) (.one 0 (.one 1 (.one 3 (.one 4 (.one 5 (.one 6 (.one 7 (.one 9 (.one 12 (.one 13 (.one 14 (.one 15 (.one 16 (.one 18 (.one 19 (.one 22 (.one 23 (.alt 2 (.alt 8 (.one 10 (.alt 11 (.alt 17 (.one 20 (.alt 21 (.one 24 (.alt 25 .done .non)) .non)) .non) (.alt 17 (.one 20 (.alt 11 (.alt 21 (.one 24 (.alt 25 .done .non)) .non) .non)) .non))) (.alt 17 (.one 20 (.alt 8 (.one 10 (.alt 11 (.alt 21 (.one 24 (.alt 25 .done .non)) .non) .non)) .non)) .non)) (.alt 8 (.one 10 (.alt 2 (.alt 11 (.alt 17 (.one 20 (.alt 21 (.one 24 (.alt 25 .done .non)) .non)) .non) (.alt 17 (.one 20 (.alt 11 (.alt 21 (.one 24 (.alt 25 .done .non)) .non) .non)) .non)) (.alt 17 (.one 20 (.alt 2 (.alt 11 (.alt 21 (.one 24 (.alt 25 .done .non)) .non) .non) .non)) .non))) (.alt 17 (.one 20 (.alt 2 (.alt 8 (.one 10 (.alt 11 (.alt 21 (.one 24 (.alt 25 .done .non)) .non) .non)) .non) (.alt 8 (.one 10 (.alt 2 (.alt 11 (.alt 21 (.one 24 (.alt 25 .done .non)) .non) .non) .non)) .non))) .non)))))))))))))))))))) [0] (by kernel_rfl) (fun G ff hG hf => ?_)
        simp (decide := true) only [oncgb5, Nat.reduceAdd] at hG ⊢
        simp -dsimp (decide := true) (maxSteps := 1000000) (disch := first | omega | simp (decide := true) only [oncgb0]) only [oncgb9, ↓brun_b, envOf, reduceIte, Nat.reduceEqDiff, Nat.reduceAdd, Nat.reduceSub, Nat.reduceMul, Nat.reduceBEq, Nat.reduceLeDiff, Nat.reduceLT, Int.reduceToNat, rho, hG, hwi, ht1, ht2, sapp1_sl el151]
        (repeat' refine And.intro ?_ ?_)
        all_goals try omega
        all_goals
          refine hf _ (Sem.go (k := 1000) ?_)
          simp (decide := true) only [back_mk, backL_in, backL_row, backL_none, backL_nil, Nat.zero_add, Nat.reduceAdd]
          simp -dsimp (decide := true) (maxSteps := 1000000) (disch := first | omega | simp (decide := true) only [oncgb0]) only [oncgb1, ↓brun_b, envOf, reduceIte, Nat.reduceEqDiff, Nat.reduceAdd, Nat.reduceSub, Nat.reduceMul, Nat.reduceBEq, Nat.reduceLeDiff, Nat.reduceLT, Int.reduceToNat, rho]
          refine SQ.fin (SQ.runL (rs := []) [0, 1, 2, 3, 4, 5, 6, 7, 8, 9, 10, 11, 12, 13, 14, 15, 16, 17, 18, 19, 28, 21, 22, 23, 24] _ _ rfl (And.intro rfl rfl) (by decide) rfl rfl ?_ ?_)
          · simp -dsimp (decide := true) (maxSteps := 1000000) (disch := first | omega | simp (decide := true) only [oncgb0]) only [oncgb2, ↓brun_b, envOf, reduceIte, Nat.reduceEqDiff, Nat.reduceAdd, Nat.reduceSub, Nat.reduceMul, Nat.reduceBEq, Nat.reduceLeDiff, Nat.reduceLT, Int.reduceToNat, rho, hrl, frz1, ↓reduceIte]
            exact fun e he => hre _ _ e
          · simp -dsimp (decide := true) (maxSteps := 1000000) (disch := first | omega | simp (decide := true) only [oncgb0]) only [oncgb2, ↓brun_b, envOf, reduceIte, Nat.reduceEqDiff, Nat.reduceAdd, Nat.reduceSub, Nat.reduceMul, Nat.reduceBEq, Nat.reduceLeDiff, Nat.reduceLT, Int.reduceToNat, rho, frz1, ↓reduceIte]
            exact Ent.eq rfl
    have hk5 : ¬ kd = 5 := by simpa using h5
    by_cases hn0 : (T.w true).length = 0
    · have hT2 : T' = T := by rw [hT, playT, if_neg hk0, if_neg hk1, if_neg hk2, if_neg hk3, if_pos hn0]
      clear hT
      subst hT2
      rw [if_pos hn0] at hiv
      simp -dsimp (decide := true) (maxSteps := 1000000) (disch := first | omega | simp (decide := true) only [oncgb0]) only [oncgb1, ↓brun_b, envOf, reduceIte, Nat.reduceEqDiff, Nat.reduceAdd, Nat.reduceSub, Nat.reduceMul, Nat.reduceBEq, Nat.reduceLeDiff, Nat.reduceLT, Int.reduceToNat, rho, hiv]
      refine SQ.fin (SQ.runL (rs := []) [0, 1, 2, 3, 4, 5, 6, 7, 8, 9, 10, 11, 12, 13, 14, 15, 16, 17, 18, 19, 20, 21, 22, 23, 24] _ _ rfl (And.intro rfl rfl) (by decide) rfl rfl ?_ ?_)
      · simp -dsimp (decide := true) (maxSteps := 1000000) (disch := first | omega | simp (decide := true) only [oncgb0]) only [oncgb2, ↓brun_b, envOf, reduceIte, Nat.reduceEqDiff, Nat.reduceAdd, Nat.reduceSub, Nat.reduceMul, Nat.reduceBEq, Nat.reduceLeDiff, Nat.reduceLT, Int.reduceToNat, rho, hz, hzz, frz1, ↓reduceIte]
      · simp -dsimp (decide := true) (maxSteps := 1000000) (disch := first | omega | simp (decide := true) only [oncgb0]) only [oncgb2, ↓brun_b, envOf, reduceIte, Nat.reduceEqDiff, Nat.reduceAdd, Nat.reduceSub, Nat.reduceMul, Nat.reduceBEq, Nat.reduceLeDiff, Nat.reduceLT, Int.reduceToNat, rho, hz, hzz, frz1, ↓reduceIte]
        exact Ent.eq rfl
    · rw [if_neg hn0] at hiv
      obtain ⟨hi1, hi2⟩ := hidx (by omega)
      have hT2 : T' = T.say (!true) [(T.w true).getD i (.ak 0 0 0)] := by rw [hT, playT, if_neg hk0, if_neg hk1, if_neg hk2, if_neg hk3, if_neg hn0, if_neg hk4, if_neg hk5]
      clear hT
      subst hT2
      simp only [upd_ff, upd_tt, upd_ft, upd_tf, Bool.not_false, Bool.not_true, Tk.say, sayL_one]
      generalize hf : (T.w true).getD i (.ak 0 0 0) = f at *
      have hs := sayD0 i0 i1 T i hi2 f hf _ rfl
      generalize hv : (if (T.w true).length < 200 then (T.w true) ++ [f] else (T.w true)) = v at *
      have hwi : IntKind.i64.wrap ((i : Int) + 1) = ((i + 1 : Nat) : Int) := by rw [wrap_i64 _ (by omega)]; rfl
      have ht3 : (((i + 1 : Nat) : Int) - (i : Int)).toNat = 1 := by omega
      simp -dsimp (decide := true) (maxSteps := 1000000) (disch := first | omega | simp (decide := true) only [oncgb0]) only [oncgb1, ↓brun_b, envOf, reduceIte, Nat.reduceEqDiff, Nat.reduceAdd, Nat.reduceSub, Nat.reduceMul, Nat.reduceBEq, Nat.reduceLeDiff, Nat.reduceLT, Int.reduceToNat, rho, hiv, hwiv, hwi, ht3]
      (repeat refine And.intro (by omega) ?_)
      refine SemOps.callw [0, 13, 14, 15, 16, 17, 18, 19, 20, 21, 22, 23, 24] cal.f134 (hs) rfl rfl rfl (by simp -dsimp (decide := true) (maxSteps := 1000000) (disch := first | omega | simp (decide := true) only [oncgb0]) only [oncgb2, ↓brun_b, envOf, reduceIte, Nat.reduceEqDiff, Nat.reduceAdd, Nat.reduceSub, Nat.reduceMul, Nat.reduceBEq, Nat.reduceLeDiff, Nat.reduceLT, Int.reduceToNat, rho, frz1, ↓reduceIte]) rfl (by simp -dsimp (decide := true) (maxSteps := 1000000) (disch := first | omega | simp (decide := true) only [oncgb0]) only [oncgb2, ↓brun_b, envOf, reduceIte, Nat.reduceEqDiff, Nat.reduceAdd, Nat.reduceSub, Nat.reduceMul, Nat.reduceBEq, Nat.reduceLeDiff, Nat.reduceLT, Int.reduceToNat, rho, frz1, ↓reduceIte]) (by simp -dsimp (decide := true) (maxSteps := 1000000) (disch := first | omega | simp (decide := true) only [oncgb0]) only [oncgc2, ↓brun_b, envOf, reduceIte, Nat.reduceEqDiff, Nat.reduceAdd, Nat.reduceSub, Nat.reduceMul, Nat.reduceBEq, Nat.reduceLeDiff, Nat.reduceLT, Int.reduceToNat]) ?_
      refine SemOps.go (k := 1000) ?_
      simp -dsimp (decide := true) (maxSteps := 1000000) (disch := first | omega | simp (decide := true) only [oncgb0]) only [oncgb1, ↓brun_b, envOf, reduceIte, Nat.reduceEqDiff, Nat.reduceAdd, Nat.reduceSub, Nat.reduceMul, Nat.reduceBEq, Nat.reduceLeDiff, Nat.reduceLT, Int.reduceToNat, rho]
      refine SQ.fin (SQ.runL (rs := []) [0, 1, 2, 3, 4, 5, 6, 7, 8, 9, 10, 11, 12, 13, 14, 15, 16, 17, 18, 19, 26, 21, 22, 23, 24] _ _ rfl (And.intro rfl rfl) (by decide) rfl rfl ?_ ?_)
      · simp -dsimp (decide := true) (maxSteps := 1000000) (disch := first | omega | simp (decide := true) only [oncgb0]) only [oncgb2, ↓brun_b, envOf, reduceIte, Nat.reduceEqDiff, Nat.reduceAdd, Nat.reduceSub, Nat.reduceMul, Nat.reduceBEq, Nat.reduceLeDiff, Nat.reduceLT, Int.reduceToNat, rho, hz, hzz, frz1, ↓reduceIte]
      · simp -dsimp (decide := true) (maxSteps := 1000000) (disch := first | omega | simp (decide := true) only [oncgb0]) only [oncgb2, ↓brun_b, envOf, reduceIte, Nat.reduceEqDiff, Nat.reduceAdd, Nat.reduceSub, Nat.reduceMul, Nat.reduceBEq, Nat.reduceLeDiff, Nat.reduceLT, Int.reduceToNat, rho, hz, hzz, frz1, ↓reduceIte]
        exact Ent.eq rfl
end Go.Proofs
