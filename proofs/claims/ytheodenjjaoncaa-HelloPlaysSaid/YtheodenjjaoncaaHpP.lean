/- Contracts of functions that the laws reach, on abstract values, and what they need: no conditions but those that each theorem states. -/
import Derived.Test.YtheodenjjaoncaaRefQ
import Derived.Test.YtheodenjjaoncaaSlY
import Derived.Test.YtheodenjjaoncaaWinP
set_option linter.unusedVariables false
set_option linter.unusedSimpArgs false
set_option linter.defProp false
namespace Go.SL
open Go
structure HOp where
  kd : Int
  a : Int
  b : Int
  t : List UInt8
  F : Frm
end Go.SL
namespace Go.Proofs
open Go Go.SL
set_option maxRecDepth 100000
def horow (o : HOp) : List SV := .v (.int .i64 o.kd) :: .v (.int .i64 o.a) :: .v (.int .i64 o.b) :: bsl o.t :: o.F.fc.c
def horows (os : List HOp) : List (List SV) := os.map horow
theorem horow_eq (o : HOp) : horow o = .v (.int .i64 o.kd) :: .v (.int .i64 o.a) :: .v (.int .i64 o.b) :: bsl o.t :: o.F.fc.c := rfl
theorem horow_len (o : HOp) : (horow o).length = 99 := by simp [horow, Frm.fc, FC.c_length]
theorem horows_length (os : List HOp) : (horows os).length = os.length := by simp [horows]
theorem horow_flat (o : HOp) : SV.flatL (horow o) = true := by
  have := Frm.flat o.F
  simp [horow, flatL_cons, flat_v, flat_rsl, flatR_brows, this]
theorem horows_flat (os : List HOp) : SV.flatR (horows os) = true := flatR_map _ _ horow_flat
def ho0 : HOp := ⟨0, 0, 0, [], zFrm⟩
theorem horows_at (os : List HOp) (k : Nat) (h : k < os.length) : (horows os).getD k [] = horow (os.getD k ho0) := by
  simp [horows, List.getD_eq_getElem?_getD, List.getElem?_eq_getElem h]
theorem horow_one (o : HOp) : (horow o).all SV.one = true := by
  simp [horow, frm_one, one_v, oneCell_int, one_rsl]
def zO : List SV := .v (.int .i64 0) :: .v (.int .i64 0) :: .v (.int .i64 0) :: .v (.slice none 0 0) :: zF.c
theorem zO_len : zO.length = 99 := by simp [zO, FC.c_length]
theorem al153 (N : Nat) : sAlloc Try.prog N 153 = some ⟨.ptr N 0 0, ⟨none, some (.row ⟨99, 1, true, 153, fun _ => zO⟩)⟩, True⟩ := sAlloc_eq N 153 _ tab.z153 rfl
theorem horow_set (o : HOp) (l : List SV) (h : l.length = 99) : splice l 0 (horow o) = horow o := splice_all _ _ (by rw [horow_len, h])
theorem horow_all (o : HOp) : spart true (horow o) 0 99 = .agg (horow o) := by simp [spart, List.take_of_length_le, horow_len]
theorem horow_kd (o : HOp) : cellAt (horow o) 0 = .v (.int .i64 o.kd) := rfl
theorem horow_t (o : HOp) : cellAt (horow o) 3 = bsl o.t := rfl
theorem horow_num (o : HOp) : spart true (horow o) 1 2 = .agg [.v (.int .i64 o.a), .v (.int .i64 o.b)] := rfl
def hiF (mi mn pi pn : Int) (a : I16) : Frm := { zFrm with kind := 1, fi := mi, fn := mn, ti := pi, tn := pn, a := a }
def akF (mi mn pi pn n : Int) : Frm := { zFrm with kind := 3, fi := mi, fn := mn, ti := pi, tn := pn, n := n }
def daF (mi mn pi pn n : Int) (t : List UInt8) : Frm := { zFrm with kind := 2, fi := mi, fn := mn, ti := pi, tn := pn, n := n, tx := t }
theorem hiF_ent {fz : Nat → Option SB} {ρ : Nat → Nat} (mi mn pi pn : Int) (id : I16) : EntL fz ρ (hiF mi mn pi pn id).fc.c (FC.c { zF with kind := .v (.int .i64 1), fi := .v (.int .i64 mi), fn := .v (.int .i64 mn), ti := .v (.int .i64 pi), tn := .v (.int .i64 pn), a := id }) := by
  unfold hiF zFrm Frm.fc zF
  rw [FC.ent]
  simp only [Ent_self, flat_v, lrows, idrs, bsl, brows_nil, List.map_nil, Ent_nilsl, and_true, and_self]
theorem akF_ent {fz : Nat → Option SB} {ρ : Nat → Nat} (mi mn pi pn n : Int) : EntL fz ρ (akF mi mn pi pn n).fc.c (FC.c { zF with kind := .v (.int .i64 3), fi := .v (.int .i64 mi), fn := .v (.int .i64 mn), ti := .v (.int .i64 pi), tn := .v (.int .i64 pn), n := .v (.int .i64 n) }) := by
  unfold akF zFrm Frm.fc zF
  rw [FC.ent]
  simp only [Ent_self, flat_v, lrows, idrs, bsl, brows_nil, List.map_nil, Ent_nilsl, and_true, and_self]
theorem daF_ent {fz : Nat → Option SB} {ρ : Nat → Nat} (mi mn pi pn n : Int) (t : List UInt8) : EntL fz ρ (daF mi mn pi pn n t).fc.c (FC.c { zF with kind := .v (.int .i64 2), fi := .v (.int .i64 mi), fn := .v (.int .i64 mn), ti := .v (.int .i64 pi), tn := .v (.int .i64 pn), n := .v (.int .i64 n), tx := bsl t }) := by
  unfold daF zFrm Frm.fc zF
  rw [FC.ent]
  simp only [Ent_self, flat_v, flat_rsl, flatR_brows, lrows, idrs, bsl, brows_nil, List.map_nil, Ent_nilsl, and_true, and_self]
theorem frows_nil : frows [] = [] := rfl
theorem frows1_ent {fz : Nat → Option SB} {ρ : Nat → Nat} {F : Frm} {c : List SV} (h : EntL fz ρ F.fc.c c) (i : Nat) (r : List SV) (hr : (frows [F])[i]? = some r) : EntL fz ρ r c := by
  match i, hr with
  | 0, hr =>
    have hr : some F.fc.c = some r := hr
    injection hr with hr
    rw [← hr]; exact h
structure Es where
  up : Bool
  op : Bool
  mi : Int
  mn : Int
  pi : Int
  pn : Int
  pid : I16
  all : List (List UInt8)
  ts : List (List UInt8)
  kn : Nat
  got : Nat
def Es.down : Es := ⟨false, false, 0, 0, 0, 0, I16.zero, [], [], 0, 0⟩
structure EsOk (i : Nat) (s : Es) : Prop where
  kn : s.kn ≤ s.all.length
  ts : s.ts = s.all.drop s.kn
  all : s.all.length ≤ i
  got : s.got ≤ i
  len : ∀ t ∈ s.all, t.length ≤ 4096
theorem EsOk.le {i j : Nat} {s : Es} (h : EsOk i s) (hij : i ≤ j) : EsOk j s := ⟨h.kn, h.ts, Nat.le_trans h.all hij, Nat.le_trans h.got hij, h.len⟩
theorem EsOk.tl {i : Nat} {s : Es} (h : EsOk i s) : s.ts.length = s.all.length - s.kn := by rw [h.ts, List.length_drop]
theorem EsOk.tsl {i : Nat} {s : Es} (h : EsOk i s) : ∀ t ∈ s.ts, t.length ≤ 4096 := fun t ht => h.len t (by rw [h.ts] at ht; exact List.mem_of_mem_drop ht)
theorem EsOk.down (i : Nat) : EsOk i Es.down := ⟨Nat.le_refl _, rfl, Nat.zero_le _, Nat.zero_le _, fun t h => by cases h⟩
def psL (id : I16) (s : Es) : List (Option SK) :=
  [some (.row ⟨39, 1, true, 204, fun _ => EC.c ⟨id, .v (.bool s.up), .v (.bool s.op), .v (.int .i64 s.mi), .v (.int .i64 s.mn), .v (.int .i64 s.pi), .v (.int .i64 s.pn), s.pid, .ptr 1 0 0⟩⟩),
   some (.row ⟨3, 1, true, 197, fun _ => [.v (.int .i64 ((1 + s.kn : Nat) : Int)), .slc 2 0 s.ts.length, .v (.int .i64 (s.got : Int))]⟩), some (.row ⟨1, s.ts.length, true, 35, trow s.ts⟩),
   some (.row ⟨41, 1, true, 142, fun _ => RE.c ⟨id, .v (.bool s.up), .v (.bool s.op), .v (.int .i64 s.mi), .v (.int .i64 s.mn), .v (.int .i64 s.pi), .v (.int .i64 s.pn), s.pid, .slc 4 0 s.all.length, .v (.int .i64 (s.kn : Int)), .v (.int .i64 (s.got : Int))⟩⟩), some (.row ⟨1, s.all.length, true, 35, trow s.all⟩)]
def hpSt (id : I16) (os : List HOp) (i : Nat) (s : Es) : St :=
  ⟨268, 0, [(5, .ptr 0 0 0), (6, .ptr 3 0 0), (38, .rsl 99 (horows os)), (39, .v (.int .i64 (os.length : Int))), (40, .v (.int .i64 (i : Int)))], psL id s⟩
theorem hpSt_eq (id : I16) (os : List HOp) (i : Nat) (s : Es) : hpSt id os i s =
  ⟨268, 0, [(5, .ptr 0 0 0), (6, .ptr 3 0 0), (38, .rsl 99 (horows os)), (39, .v (.int .i64 (os.length : Int))), (40, .v (.int .i64 (i : Int)))],
  [some (.row ⟨39, 1, true, 204, fun _ => EC.c ⟨id, .v (.bool s.up), .v (.bool s.op), .v (.int .i64 s.mi), .v (.int .i64 s.mn), .v (.int .i64 s.pi), .v (.int .i64 s.pn), s.pid, .ptr 1 0 0⟩⟩),
   some (.row ⟨3, 1, true, 197, fun _ => [.v (.int .i64 ((1 + s.kn : Nat) : Int)), .slc 2 0 s.ts.length, .v (.int .i64 (s.got : Int))]⟩), some (.row ⟨1, s.ts.length, true, 35, trow s.ts⟩),
   some (.row ⟨41, 1, true, 142, fun _ => RE.c ⟨id, .v (.bool s.up), .v (.bool s.op), .v (.int .i64 s.mi), .v (.int .i64 s.mn), .v (.int .i64 s.pi), .v (.int .i64 s.pn), s.pid, .slc 4 0 s.all.length, .v (.int .i64 (s.kn : Int)), .v (.int .i64 (s.got : Int))⟩⟩), some (.row ⟨1, s.all.length, true, 35, trow s.all⟩)]⟩ := rfl
def hppc0 :=
  (And.intro (And.intro (And.intro @AD.c_length @AK.c_length) (And.intro @CP.c_length @DR.c_length)) (And.intro (And.intro @GT.c_length @PE.c_length) (And.intro @PK.c_length (And.intro @PT.c_length @SU.c_length))))
def hppc1 :=
  (And.intro (And.intro (And.intro (And.intro @AD.flat @AK.flat) (And.intro @CP.flat (And.intro @DR.flat @EC.flat))) (And.intro (And.intro @GT.flat @H1.flat) (And.intro @I16.flat (And.intro @IC.flat @PE.flat)))) (And.intro (And.intro (And.intro @PK.flat @PT.flat) (And.intro @RE.flat (And.intro @SU.flat @brow_flat))) (And.intro (And.intro @frm_flat (And.intro @idrs_flat @lrow_flat)) (And.intro @lrows_flat (And.intro @trow_flat @trows_flat)))))
def hppc2 :=
  (And.intro (And.intro (And.intro (And.intro @AD.one (And.intro @AK.one @CP.one)) (And.intro @DR.one (And.intro @EC.one @FC.flat_eq))) (And.intro (And.intro @FC.one_eq (And.intro @GT.one @H1.one)) (And.intro (And.intro @I16.one @IC.one) (And.intro @PE.one @PK.one)))) (And.intro (And.intro (And.intro @PT.one (And.intro @RE.one @SU.one)) (And.intro (And.intro @bdset_a @idrs_len) (And.intro @lrow_len @lrows_length))) (And.intro (And.intro @trows_length (And.intro @zD.eq_1 @zE.eq_1)) (And.intro (And.intro @zF.eq_1 @zH.eq_1) (And.intro @zK.eq_1 @zR.eq_1)))))
def hppc3 :=
  (And.intro (And.intro @EC.c_length (And.intro @FC.c_length @H1.c_length)) (And.intro @I16.c_length (And.intro @brow_len @trow_len)))
def hppb0 :=
  (And.intro (And.intro (And.intro hppc0 hppc1) (And.intro hppc2 hppc3)) (And.intro (And.intro @IC.c_length @RE.c_length) (And.intro @fh_flat @fk_flat)))
def hppc4 :=
  (And.intro (And.intro (And.intro (And.intro (And.intro (And.intro @EC.at_mi @EC.at_mn) (And.intro @EC.at_op @EC.at_pi)) (And.intro (And.intro @EC.at_pn @EC.at_up) (And.intro @EC.at_w (And.intro @EC.ent @EC.part)))) (And.intro (And.intro (And.intro @EC.part_id @EC.part_mine) (And.intro @EC.part_peer @EC.part_pid)) (And.intro (And.intro @EC.renc @EC.set_all) (And.intro @EC.set_mine (And.intro @EC.set_op @EC.set_peer))))) (And.intro (And.intro (And.intro (And.intro @EC.set_pid @EC.set_up) (And.intro @EC.set_w @FC.part)) (And.intro (And.intro @FC.set_all @H1.at_fi) (And.intro @H1.at_fn (And.intro @H1.at_ti @H1.at_tn)))) (And.intro (And.intro (And.intro @H1.part @H1.part_a) (And.intro @H1.part_from @H1.part_to)) (And.intro (And.intro @H1.set_all @I16.part) (And.intro @Int.cast_ofNat_Int (And.intro @List.replicate_succ.{0} @List.replicate_zero.{0})))))) (And.intro (And.intro (And.intro (And.intro (And.intro @SKren_row @after_mk) (And.intro @al135 @al151)) (And.intro (And.intro @al162 @al210) (And.intro @al214 (And.intro @al218 @al23)))) (And.intro (And.intro (And.intro @brow_cell @build135z) (And.intro @build151a @build151h)) (And.intro (And.intro @build151z @build162z) (And.intro @build214 (And.intro @build23z @cellAt_succ))))) (And.intro (And.intro (And.intro (And.intro @cellAt_zero @mergeL_done) (And.intro @mergeL_own @mergeL_row)) (And.intro (And.intro @mk210 @mk214) (And.intro @mk218 (And.intro @renL_cons @renL_flat)))) (And.intro (And.intro (And.intro @renL_nil @ren_tup) (And.intro @sop_assert (And.intro @sp02 @sp05))) (And.intro (And.intro @sp22 @splice_0) (And.intro @splice_c (And.intro @splice_s @trow_cell)))))))
def hppc5 :=
  (And.intro (And.intro (And.intro (And.intro @FC.at_fi (And.intro @FC.at_fn @FC.at_is)) (And.intro @FC.at_kind (And.intro @FC.at_n @FC.at_op))) (And.intro (And.intro @FC.at_pn (And.intro @FC.at_ti @FC.at_tn)) (And.intro @FC.at_toA (And.intro @FC.at_tr @FC.at_ttl)))) (And.intro (And.intro (And.intro @FC.at_tx (And.intro @FC.at_val @FC.at_vn)) (And.intro @FC.part_P (And.intro @FC.part_a @FC.part_b))) (And.intro (And.intro @FC.part_from (And.intro @FC.part_it @FC.part_key)) (And.intro (And.intro @FC.part_to @FC.part_ver) (And.intro @FC.part_vwho @FC.part_who)))))
def hppc6 :=
  (And.intro (And.intro (And.intro @beq_self_eq_true.{0} (And.intro @brun_a @cond_false.{1})) (And.intro @cond_true.{1} (And.intro @tab.a3 @tab.a35))) (And.intro (And.intro @tab.a5 (And.intro @tab.s3 @tab.s35)) (And.intro (And.intro @tab.s5 @tab.u3) (And.intro @tab.u35 @tab.u5))))
def hppc7 :=
  (And.intro (And.intro (And.intro (And.intro @tab.a121 @tab.a204) (And.intro @tab.a50 @tab.f204x0)) (And.intro (And.intro @tab.f204x1 @tab.f204x2) (And.intro @tab.f204x3 @tab.f204x4))) (And.intro (And.intro (And.intro @tab.f204x5 @tab.f204x6) (And.intro @tab.s121 @tab.s204)) (And.intro (And.intro @tab.s50 @tab.u121) (And.intro @tab.u204 @tab.u50))))
def hppc8 :=
  (And.intro (And.intro (And.intro (And.intro (And.intro @tab.a135 (And.intro @tab.a144 @tab.a145)) (And.intro @tab.a147 (And.intro @tab.a149 @tab.a151))) (And.intro (And.intro @tab.a2 (And.intro @tab.a23 @tab.a4)) (And.intro (And.intro @tab.a79 @tab.f135x0) (And.intro @tab.f135x1 @tab.f144x0)))) (And.intro (And.intro (And.intro @tab.f144x1 (And.intro @tab.f147x0 @tab.f147x1)) (And.intro @tab.f149x0 (And.intro @tab.f149x1 @tab.f149x2))) (And.intro (And.intro @tab.f151x0 (And.intro @tab.f151x1 @tab.f151x10)) (And.intro (And.intro @tab.f151x11 @tab.f151x12) (And.intro @tab.f151x13 @tab.f151x2))))) (And.intro (And.intro (And.intro (And.intro @tab.f151x3 (And.intro @tab.f151x4 @tab.f151x5)) (And.intro @tab.f151x6 (And.intro @tab.f151x7 @tab.f151x8))) (And.intro (And.intro @tab.f151x9 (And.intro @tab.s135 @tab.s144)) (And.intro (And.intro @tab.s145 @tab.s147) (And.intro @tab.s149 @tab.s151)))) (And.intro (And.intro (And.intro @tab.s2 (And.intro @tab.s23 @tab.s4)) (And.intro (And.intro @tab.s79 @tab.u135) (And.intro @tab.u144 @tab.u145))) (And.intro (And.intro @tab.u147 (And.intro @tab.u149 @tab.u151)) (And.intro (And.intro @tab.u2 @tab.u23) (And.intro @tab.u4 @tab.u79))))))
def hppb1 :=
  (And.intro (And.intro (And.intro hppc4 hppc3) (And.intro hppc5 (And.intro hppc6 hppc7))) (And.intro (And.intro hppc8 (And.intro @fh_flat @fk_flat)) (And.intro @tab.a124 (And.intro @tab.s124 @tab.u124))))
def hppb2 :=
  (And.intro (And.intro (And.intro hppc4 (And.intro hppc3 hppc6)) (And.intro (And.intro hppc7 hppc8) (And.intro @bwk_a @eq_self.{1}))) (And.intro (And.intro (And.intro @fh_flat @fk_flat) (And.intro @forall_const.{1} @implies_true.{0})) (And.intro (And.intro @implies_true.{1} @tab.a124) (And.intro @tab.s124 @tab.u124))))
theorem riseUp_calls (id pid : I16) (op : Bool) (mi mn pi pn base got a b : Int) (ts : List (List UInt8)) :
    SCall Try.prog 96 [.ptr 0 0 0, .agg [.v (.int .i64 a), .v (.int .i64 b)]] [some (.row ⟨39, 1, false, 204, fun _ => EC.c ⟨id, .v (.bool true), .v (.bool op), .v (.int .i64 mi), .v (.int .i64 mn), .v (.int .i64 pi), .v (.int .i64 pn), pid, .ptr 1 0 0⟩⟩), some (.row ⟨3, 1, false, 197, fun _ => [.v (.int .i64 base), .slc 2 0 ts.length, .v (.int .i64 got)]⟩), some (.row ⟨1, ts.length, false, 35, trow ts⟩)]
      fun r L => r = .ret (.v (.slice none 0 0)) ∧ L = [none, none, none] := by
  refine SCall.mk (fn := Try.f96) (by kernel_rfl) rfl (Nat.le_of_ble_eq_true (by kernel_rfl)) ?_
  refine Sem.go (k := 1000) ?_
  simp -dsimp (decide := true) (disch := first | omega | simp (decide := true) only [hppb0]) only [hppb1, ↓brun_b, envOf, reduceIte, Nat.reduceEqDiff, Nat.reduceAdd, Nat.reduceSub, Nat.reduceMul, Nat.reduceBEq, Nat.reduceLeDiff, Nat.reduceLT, Int.reduceToNat, rho]
  refine SQ.runL (rs := [.tmp 4]) [0, 1, 2] _ _ rfl (And.intro rfl rfl) (by decide) rfl rfl ?_ ?_
  · simp -dsimp (decide := true) (disch := first | omega | simp (decide := true) only [hppb0]) only [hppb2, ↓brun_b, envOf, reduceIte, Nat.reduceEqDiff, Nat.reduceAdd, Nat.reduceSub, Nat.reduceMul, Nat.reduceBEq, Nat.reduceLeDiff, Nat.reduceLT, Int.reduceToNat, rho, frz1, ↓reduceIte]
  · simp -dsimp (decide := true) (disch := first | omega | simp (decide := true) only [hppb0]) only [hppb2, ↓brun_b, envOf, reduceIte, Nat.reduceEqDiff, Nat.reduceAdd, Nat.reduceSub, Nat.reduceMul, Nat.reduceBEq, Nat.reduceLeDiff, Nat.reduceLT, Int.reduceToNat, rho, frz1, ↓reduceIte]
def hppc9 :=
  (And.intro (And.intro (And.intro (And.intro (And.intro @RE.at_mi (And.intro @RE.at_mn @RE.at_op)) (And.intro @RE.at_pi (And.intro @RE.at_pn @RE.at_up))) (And.intro (And.intro @RE.at_wg (And.intro @RE.at_wk @RE.at_wt)) (And.intro @RE.ent (And.intro @RE.part @RE.part_id)))) (And.intro (And.intro (And.intro @RE.part_mine (And.intro @RE.part_peer @RE.part_pid)) (And.intro @RE.part_w (And.intro @RE.renc @RE.set_all))) (And.intro (And.intro @RE.set_mine (And.intro @RE.set_op @RE.set_peer)) (And.intro @RE.set_pid (And.intro @RE.set_up @RE.set_w))))) (And.intro (And.intro (And.intro (And.intro @RE.set_wg (And.intro @RE.set_wk @RE.set_wt)) (And.intro @build142f (And.intro @build142r @i16_set))) (And.intro (And.intro @tab.a140 (And.intro @tab.a142 @tab.a54)) (And.intro @tab.f142x0 (And.intro @tab.f142x1 @tab.f142x2)))) (And.intro (And.intro (And.intro @tab.f142x3 (And.intro @tab.f142x4 @tab.f142x5)) (And.intro @tab.f142x6 (And.intro @tab.f54x0 @tab.f54x1))) (And.intro (And.intro @tab.f54x2 (And.intro @tab.s140 @tab.s142)) (And.intro (And.intro @tab.s54 @tab.u140) (And.intro @tab.u142 @tab.u54))))))
def hppb3 :=
  (And.intro (And.intro (And.intro hppc4 (And.intro hppc3 hppc9)) (And.intro (And.intro hppc6 hppc8) (And.intro @RE.c_length @fh_flat))) (And.intro (And.intro @fk_flat (And.intro @tab.a124 @tab.a44)) (And.intro (And.intro @tab.s124 @tab.s44) (And.intro @tab.u124 @tab.u44))))
def hppb4 :=
  (And.intro (And.intro (And.intro (And.intro hppc4 hppc3) (And.intro hppc9 hppc6)) (And.intro (And.intro hppc8 @RE.c_length) (And.intro @bwk_a (And.intro @eq_self.{1} @fh_flat)))) (And.intro (And.intro (And.intro @fk_flat @forall_const.{1}) (And.intro @implies_true.{0} (And.intro @implies_true.{1} @tab.a124))) (And.intro (And.intro @tab.a44 @tab.s124) (And.intro @tab.s44 (And.intro @tab.u124 @tab.u44)))))
theorem refRiseUp_calls (id pid : I16) (op : Bool) (mi mn pi pn kn gt ni nn : Int) (k : Nat) (ts : List (List UInt8)) :
    SCall Try.prog 97 [.ptr 0 0 0, .agg [.v (.int .i64 ni), .v (.int .i64 nn)]] [some (.row ⟨41, 1, false, 142, fun _ => RE.c ⟨id, .v (.bool true), .v (.bool op), .v (.int .i64 mi), .v (.int .i64 mn), .v (.int .i64 pi), .v (.int .i64 pn), pid, .slc 1 0 k, .v (.int .i64 kn), .v (.int .i64 gt)⟩⟩), some (.row ⟨1, k, false, 35, trow ts⟩)]
      fun r L => r = .ret (.v (.slice none 0 0)) ∧ L = [none, none] := by
  refine SCall.mk (fn := Try.f97) (by kernel_rfl) rfl (Nat.le_of_ble_eq_true (by kernel_rfl)) ?_
  refine Sem.go (k := 1000) ?_
  simp -dsimp (decide := true) (disch := first | omega | simp (decide := true) only [hppb0]) only [hppb3, ↓brun_b, envOf, reduceIte, Nat.reduceEqDiff, Nat.reduceAdd, Nat.reduceSub, Nat.reduceMul, Nat.reduceBEq, Nat.reduceLeDiff, Nat.reduceLT, Int.reduceToNat, rho]
  refine SQ.runL (rs := [.tmp 4]) [0, 1] _ _ rfl (And.intro rfl rfl) (by decide) rfl rfl ?_ ?_
  · simp -dsimp (decide := true) (disch := first | omega | simp (decide := true) only [hppb0]) only [hppb4, ↓brun_b, envOf, reduceIte, Nat.reduceEqDiff, Nat.reduceAdd, Nat.reduceSub, Nat.reduceMul, Nat.reduceBEq, Nat.reduceLeDiff, Nat.reduceLT, Int.reduceToNat, rho, frz1, ↓reduceIte]
  · simp -dsimp (decide := true) (disch := first | omega | simp (decide := true) only [hppb0]) only [hppb4, ↓brun_b, envOf, reduceIte, Nat.reduceEqDiff, Nat.reduceAdd, Nat.reduceSub, Nat.reduceMul, Nat.reduceBEq, Nat.reduceLeDiff, Nat.reduceLT, Int.reduceToNat, rho, frz1, ↓reduceIte]
theorem trow_dropX (S : List (List UInt8)) (a k : Nat) : trow S (a + k) = trow (S.drop a) k := by simp [trow, List.getD_eq_getElem?_getD]
def hppb5 :=
  (And.intro (And.intro (And.intro hppc4 hppc3) (And.intro hppc6 (And.intro @fh_flat @fk_flat))) (And.intro (And.intro @tab.a44 (And.intro @tab.a9 @tab.s44)) (And.intro @tab.s9 (And.intro @tab.u44 @tab.u9))))
def hppb6 :=
  (And.intro (And.intro (And.intro (And.intro hppc4 hppc3) (And.intro hppc6 @bwk_a)) (And.intro (And.intro @eq_self.{1} @fh_flat) (And.intro @fk_flat @forall_const.{1}))) (And.intro (And.intro (And.intro @implies_true.{0} @implies_true.{1}) (And.intro @tab.a44 @tab.a9)) (And.intro (And.intro @tab.s44 @tab.s9) (And.intro @tab.u44 @tab.u9))))
def hppb7 :=
  (And.intro (And.intro (And.intro @List.length_cons.{0} @List.length_nil.{0}) (And.intro @Nat.zero_add @roL_in)) (And.intro (And.intro @roL_nil @roL_none) (And.intro @roL_row @ro_mk)))
def hppb8 :=
  (And.intro (And.intro (And.intro hppc4 (And.intro hppc3 hppc6)) (And.intro @fh_flat (And.intro @fk_flat @tab.a44))) (And.intro (And.intro @tab.a9 (And.intro @tab.s44 @tab.s9)) (And.intro @tab.u44 (And.intro @tab.u9 @trows_at))))
theorem sameAllX_calls (S ts : List (List UInt8)) (a n : Nat) (hn : ts.length = n) (hs : S.length = a + n) (hts : ts = S.drop a) (h : S.length < 4611686018427387904) :
    SCall Try.prog 58 [.rsl 1 (trows ts), .slc 0 a n] [some (.row ⟨1, S.length, false, 35, trow S⟩)]
      fun r L => r = .ret (.v (.bool true)) ∧ L = [none] := by
  have hl : (trows ts).length = n := by rw [trows_length, hn]
  have ht : ∀ k, trow S (a + k) = trow ts k := fun k => by rw [hts]; exact trow_dropX S a k
  refine SCall.mk (fn := Try.f58) (by kernel_rfl) rfl (Nat.le_of_ble_eq_true (by kernel_rfl)) ?_
  refine Sem.go (k := 1000) ?_
  simp -dsimp (decide := true) (disch := first | omega | simp (decide := true) only [hppb0]) only [hppb5, ↓brun_b, envOf, reduceIte, Nat.reduceEqDiff, Nat.reduceAdd, Nat.reduceSub, Nat.reduceMul, Nat.reduceBEq, Nat.reduceLeDiff, Nat.reduceLT, Int.reduceToNat, rho, hl]
  refine Sem.loop (ι := {k : Nat // k ≤ n}) (fun k => ⟨28, 1, [(0, .rsl 1 (trows ts)), (1, .slc 0 a n), (5, .v (.int .i64 (k.1 : Int)))], [some (.row ⟨1, S.length, false, 35, trow S⟩)]⟩) (fun k => n - k.1) ⟨0, by omega⟩ [0] ?_ ?_
  · (refine Wk.ofC ?_; simp -dsimp (decide := true) (disch := first | omega | simp (decide := true) only [hppb0]) only [hppb6, ↓brun_b, envOf, reduceIte, Nat.reduceEqDiff, Nat.reduceAdd, Nat.reduceSub, Nat.reduceMul, Nat.reduceBEq, Nat.reduceLeDiff, Nat.reduceLT, Int.reduceToNat, rho, frz1, ↓reduceIte])
  · rintro ⟨k, hk⟩
    refine Sem.go (k := 1000) ?_
    simp -dsimp (decide := true) (disch := first | omega | simp (decide := true) only [hppb0]) only [hppb5, ↓brun_b, envOf, reduceIte, Nat.reduceEqDiff, Nat.reduceAdd, Nat.reduceSub, Nat.reduceMul, Nat.reduceBEq, Nat.reduceLeDiff, Nat.reduceLT, Int.reduceToNat, rho, hl]
    refine SCond.split (fun h1 => ?_) (fun h1 => ?_)
    · simp only [decide_eq_true_eq] at h1
      have hk' : k < n := by omega
      have hw : IntKind.i64.wrap ((k : Int) + 1) = ((k + 1 : Nat) : Int) := by rw [wrap_i64 _ (by omega)]; rfl
      simp -dsimp (decide := true) (disch := first | omega | simp (decide := true) only [hppb0]) only [hppb5, ↓brun_b, envOf, reduceIte, Nat.reduceEqDiff, Nat.reduceAdd, Nat.reduceSub, Nat.reduceMul, Nat.reduceBEq, Nat.reduceLeDiff, Nat.reduceLT, Int.reduceToNat, rho]
      refine Sem.draw' (by kernel_rfl) (.one 0 (.one 1 (.one 2 (.one 3 (.one 4 (.one 5 (.one 6 (.one 7 (.one 8 (.one 9 (.one 10 .done))))))))))) [] (by kernel_rfl) (fun G ff hG hf => ?_)
      simp (decide := true) only [hppb7, Nat.reduceAdd] at hG ⊢
      simp -dsimp (decide := true) (disch := first | omega | simp (decide := true) only [hppb0]) only [hppb8, ↓brun_b, envOf, reduceIte, Nat.reduceEqDiff, Nat.reduceAdd, Nat.reduceSub, Nat.reduceMul, Nat.reduceBEq, Nat.reduceLeDiff, Nat.reduceLT, Int.reduceToNat, rho, hG, hl, ht, hn]
      (repeat (refine And.intro (by omega) ?_))
      refine hf _ (Sem.go (k := 1000) ?_)
      simp (decide := true) only [back_mk, backL_in, backL_row, backL_none, backL_nil, Nat.zero_add, Nat.reduceAdd]
      simp -dsimp (decide := true) (disch := first | omega | simp (decide := true) only [hppb0]) only [hppb5, ↓brun_b, envOf, reduceIte, Nat.reduceEqDiff, Nat.reduceAdd, Nat.reduceSub, Nat.reduceMul, Nat.reduceBEq, Nat.reduceLeDiff, Nat.reduceLT, Int.reduceToNat, rho, hw]
      refine ⟨⟨k + 1, by omega⟩, [0], ?_, by show n - (k + 1) < n - k; omega⟩
      (refine Wk.ofC ?_; simp -dsimp (decide := true) (disch := first | omega | simp (decide := true) only [hppb0]) only [hppb6, ↓brun_b, envOf, reduceIte, Nat.reduceEqDiff, Nat.reduceAdd, Nat.reduceSub, Nat.reduceMul, Nat.reduceBEq, Nat.reduceLeDiff, Nat.reduceLT, Int.reduceToNat, rho, frz1, ↓reduceIte])
    · simp -dsimp (decide := true) (disch := first | omega | simp (decide := true) only [hppb0]) only [hppb5, ↓brun_b, envOf, reduceIte, Nat.reduceEqDiff, Nat.reduceAdd, Nat.reduceSub, Nat.reduceMul, Nat.reduceBEq, Nat.reduceLeDiff, Nat.reduceLT, Int.reduceToNat, rho]
      refine SQ.runL (rs := [.tmp 4]) [0] _ _ rfl (And.intro rfl rfl) (by decide) rfl rfl ?_ ?_
      · simp -dsimp (decide := true) (disch := first | omega | simp (decide := true) only [hppb0]) only [hppb6, ↓brun_b, envOf, reduceIte, Nat.reduceEqDiff, Nat.reduceAdd, Nat.reduceSub, Nat.reduceMul, Nat.reduceBEq, Nat.reduceLeDiff, Nat.reduceLT, Int.reduceToNat, rho, frz1, ↓reduceIte]
      · simp -dsimp (decide := true) (disch := first | omega | simp (decide := true) only [hppb0]) only [hppb6, ↓brun_b, envOf, reduceIte, Nat.reduceEqDiff, Nat.reduceAdd, Nat.reduceSub, Nat.reduceMul, Nat.reduceBEq, Nat.reduceLeDiff, Nat.reduceLT, Int.reduceToNat, rho, frz1, ↓reduceIte]
end Go.Proofs
namespace Go.Proofs
open Go Go.SL
set_option maxRecDepth 100000
theorem brow_row {fz : Nat → Option SB} {ρ : Nat → Nat} (t : List UInt8) (i : Nat) (r : List SV) (h : (brows t)[i]? = some r) : EntL fz ρ r (brow t (0 + i - 0)) := by
  have hi : i < t.length := by
    rcases Nat.lt_or_ge i t.length with h2 | h2
    · exact h2
    · rw [List.getElem?_eq_none (by rw [brows_length]; exact h2)] at h; cases h
  have e : brow t (0 + i - 0) = r := by
    rw [Nat.sub_zero, Nat.zero_add, ← brows_at t i hi, List.getD_eq_getElem?_getD, h, Option.getD_some]
  rw [e]
  exact EntL.self (flatR_getD _ i r (flatR_brows t) h)
theorem bl210s (fi fn ti tn n : Int) (b o k : Nat) : sBuild Try.prog 210 [(0, .agg [.v (.int .i64 fi), .v (.int .i64 fn)]), (1, .agg [.v (.int .i64 ti), .v (.int .i64 tn)]), (2, .v (.int .i64 n)), (3, .slc b o k)] = some ⟨.agg [.v (.int .i64 fi), .v (.int .i64 fn), .v (.int .i64 ti), .v (.int .i64 tn), .v (.int .i64 n), .slc b o k], {}, True⟩ := by
  rw [sBuild_eq, tab.z210, tab.l210]; rfl
def hppb9 :=
  (And.intro (And.intro (And.intro hppc0 hppc1) (And.intro hppc2 hppc3)) (And.intro (And.intro @IC.c_length @RE.c_length) (And.intro @fd_flat (And.intro @fh_flat @fk_flat))))
def hppc10 :=
  (And.intro (And.intro (And.intro (And.intro (And.intro (And.intro (And.intro @AD.at_n @AD.part) (And.intro @AD.part_a @AD.set_all)) (And.intro (And.intro @AK.at_op @AK.at_pn) (And.intro @AK.at_toA (And.intro @AK.at_tr @AK.part)))) (And.intro (And.intro (And.intro @AK.part_P @AK.part_a) (And.intro @AK.part_b (And.intro @AK.part_who @AK.set_all))) (And.intro (And.intro @CP.at_pn @CP.at_toA) (And.intro @CP.at_val (And.intro @CP.at_vn @CP.part))))) (And.intro (And.intro (And.intro (And.intro @CP.part_P @CP.part_it) (And.intro @CP.part_key @CP.part_vwho)) (And.intro (And.intro @CP.part_who @CP.set_all) (And.intro @DR.at_pn (And.intro @DR.part @DR.part_P)))) (And.intro (And.intro (And.intro @DR.part_who @DR.set_all) (And.intro @FC.ent (And.intro @GT.at_pn @GT.at_toA))) (And.intro (And.intro @GT.at_vn @GT.part) (And.intro @GT.part_P (And.intro @GT.part_key @GT.part_ver)))))) (And.intro (And.intro (And.intro (And.intro (And.intro @GT.part_vwho @GT.part_who) (And.intro @GT.set_all @PE.at_is)) (And.intro (And.intro @PE.at_pn @PE.at_toA) (And.intro @PE.part (And.intro @PE.part_P @PE.part_who)))) (And.intro (And.intro (And.intro @PE.set_all @PK.at_n) (And.intro @PK.at_op (And.intro @PK.at_ttl @PK.at_tx))) (And.intro (And.intro @PK.at_val @PK.at_vn) (And.intro @PK.part (And.intro @PK.part_a @PK.part_b))))) (And.intro (And.intro (And.intro (And.intro @PK.part_it @PK.part_key) (And.intro @PK.part_vwho (And.intro @PK.set_all @PT.at_pn))) (And.intro (And.intro @PT.at_toA @PT.part) (And.intro @PT.part_P (And.intro @PT.part_who @PT.set_all)))) (And.intro (And.intro (And.intro @SU.at_pn @SU.at_tr) (And.intro @SU.part (And.intro @SU.part_P @SU.part_a))) (And.intro (And.intro @SU.part_b @SU.part_who) (And.intro @SU.set_all (And.intro @al149 @al226))))))) (And.intro (And.intro (And.intro (And.intro (And.intro (And.intro @al230 @al232) (And.intro @al235 @al237)) (And.intro (And.intro @al239 @al241) (And.intro @al244 (And.intro @al246 @b149)))) (And.intro (And.intro (And.intro @hit226 @hit230) (And.intro @hit232 (And.intro @hit235 @hit237))) (And.intro (And.intro @hit239 @hit241) (And.intro @hit244 (And.intro @hit246 @tab.a226))))) (And.intro (And.intro (And.intro (And.intro @tab.a230 @tab.a232) (And.intro @tab.a235 @tab.a237)) (And.intro (And.intro @tab.a239 @tab.a241) (And.intro @tab.a244 (And.intro @tab.a246 @tab.f226x0)))) (And.intro (And.intro (And.intro @tab.f226x1 @tab.f226x2) (And.intro @tab.f226x3 (And.intro @tab.f230x0 @tab.f232x0))) (And.intro (And.intro @tab.f232x1 @tab.f235x0) (And.intro @tab.f235x1 (And.intro @tab.f235x2 @tab.f237x0)))))) (And.intro (And.intro (And.intro (And.intro (And.intro @tab.f237x1 @tab.f237x2) (And.intro @tab.f237x3 @tab.f237x4)) (And.intro (And.intro @tab.f237x5 @tab.f239x0) (And.intro @tab.f239x1 (And.intro @tab.f241x0 @tab.f241x1)))) (And.intro (And.intro (And.intro @tab.f241x2 @tab.f241x3) (And.intro @tab.f241x4 (And.intro @tab.f241x5 @tab.f241x6))) (And.intro (And.intro @tab.f244x0 @tab.f244x1) (And.intro @tab.f244x2 (And.intro @tab.f246x0 @tab.f246x1))))) (And.intro (And.intro (And.intro (And.intro @tab.f246x2 @tab.f246x3) (And.intro @tab.s226 (And.intro @tab.s230 @tab.s232))) (And.intro (And.intro @tab.s235 @tab.s237) (And.intro @tab.s239 (And.intro @tab.s241 @tab.s244)))) (And.intro (And.intro (And.intro @tab.s246 @tab.u226) (And.intro @tab.u230 (And.intro @tab.u232 @tab.u235))) (And.intro (And.intro @tab.u237 @tab.u239) (And.intro @tab.u241 (And.intro @tab.u244 @tab.u246))))))))
def hppc11 :=
  (And.intro (And.intro @IC.at_val (And.intro @IC.at_vn @IC.part_key)) (And.intro @IC.part_ver (And.intro @IC.part_vwho @b151k2)))
def hppc12 :=
  (And.intro (And.intro (And.intro @tab.a181 @tab.a210) (And.intro @tab.f210x0 (And.intro @tab.f210x1 @tab.f210x2))) (And.intro (And.intro @tab.f210x3 @tab.s181) (And.intro @tab.s210 (And.intro @tab.u181 @tab.u210))))
def hppc13 :=
  (And.intro (And.intro (And.intro @tab.a214 (And.intro @tab.a218 @tab.f214x0)) (And.intro @tab.f214x1 (And.intro @tab.f214x2 @tab.f218x0))) (And.intro (And.intro @tab.f218x1 (And.intro @tab.f218x2 @tab.s214)) (And.intro @tab.s218 (And.intro @tab.u214 @tab.u218))))
def hppb10 :=
  (And.intro (And.intro (And.intro hppc10 (And.intro hppc0 hppc4)) (And.intro hppc3 (And.intro hppc11 hppc6))) (And.intro (And.intro hppc8 (And.intro hppc12 hppc13)) (And.intro (And.intro @IC.c_length @fh_flat) (And.intro @fk_flat @hit210))))
def hppb11 :=
  (And.intro (And.intro (And.intro hppc10 (And.intro hppc0 hppc4)) (And.intro hppc3 (And.intro hppc11 hppc6))) (And.intro (And.intro hppc8 (And.intro hppc12 hppc13)) (And.intro @IC.c_length (And.intro @fh_flat @fk_flat))))
def hppb12 :=
  (And.intro (And.intro (And.intro hppc10 hppc0) (And.intro hppc4 (And.intro hppc3 hppc5))) (And.intro (And.intro hppc6 (And.intro hppc8 hppc12)) (And.intro hppc13 (And.intro @fh_flat @fk_flat))))
def hppb13 :=
  (And.intro (And.intro (And.intro (And.intro hppc10 hppc0) (And.intro hppc4 hppc3)) (And.intro (And.intro hppc5 hppc6) (And.intro hppc8 hppc12))) (And.intro (And.intro (And.intro hppc13 @bwk_a) (And.intro @eq_self.{1} @fh_flat)) (And.intro (And.intro @fk_flat @forall_const.{1}) (And.intro @implies_true.{0} @implies_true.{1}))))
theorem plainB_k2 (fi fn : Int) (ti tn : Int) (n : Int) (tx : List UInt8) (h10 : tx.length ≤ 140737488355328) :
    SCall Try.prog 123 [.ifc 210 (.agg ([.v (.int .i64 fi), .v (.int .i64 fn), .v (.int .i64 ti), .v (.int .i64 tn), .v (.int .i64 n), .slc 0 0 tx.length]))] [some (.row ⟨1, tx.length, false, 5, brow tx⟩)]
      fun r L => r = .ret (.agg (FC.c { zF with kind := .v (.int .i64 2), fi := .v (.int .i64 fi), fn := .v (.int .i64 fn), ti := .v (.int .i64 ti), tn := .v (.int .i64 tn), n := .v (.int .i64 n), tx := bsl tx })) ∧ L = [none] := by
  refine SCall.mk (fn := Try.f123) (by kernel_rfl) rfl (Nat.le_of_ble_eq_true (by kernel_rfl)) ?_
  refine Sem.go (k := 1000) ?_
  simp -dsimp (decide := true) (disch := first | omega | simp (decide := true) only [hppb9]) only [hppb10, ↓brun_b, envOf, reduceIte, Nat.reduceEqDiff, Nat.reduceAdd, Nat.reduceSub, Nat.reduceMul, Nat.reduceBEq, Nat.reduceLeDiff, Nat.reduceLT, Int.reduceToNat, rho, fun v => miss214 210 v (by decide)]
  refine Sem.draw' (by kernel_rfl) (.one 0 (.one 1 (.one 2 (.one 3 (.one 4 (.one 5 (.one 6 (.one 7 (.alt 8 (.one 9 (.alt 10 .done .non)) .non))))))))) [1] (by kernel_rfl) (fun G ff hG hf => ?_)
  simp (decide := true) only [hppb7, Nat.reduceAdd] at hG ⊢
  simp -dsimp (decide := true) (disch := first | omega | simp (decide := true) only [hppb9]) only [hppb11, ↓brun_b, envOf, reduceIte, Nat.reduceEqDiff, Nat.reduceAdd, Nat.reduceSub, Nat.reduceMul, Nat.reduceBEq, Nat.reduceLeDiff, Nat.reduceLT, Int.reduceToNat, rho, hG, sapp1_sl el5, sapp1_sl elN3, sapp1_sl elN23, Nat.le_refl, h10]
  refine hf _ (Sem.go (k := 1000) ?_)
  simp (decide := true) only [back_mk, backL_in, backL_row, backL_none, backL_nil, Nat.zero_add, Nat.reduceAdd]
  simp -dsimp (decide := true) (disch := first | omega | simp (decide := true) only [hppb9]) only [hppb12, ↓brun_b, envOf, reduceIte, Nat.reduceEqDiff, Nat.reduceAdd, Nat.reduceSub, Nat.reduceMul, Nat.reduceBEq, Nat.reduceLeDiff, Nat.reduceLT, Int.reduceToNat, rho]
  refine SQ.runL (rs := [.cell 2 151]) [0] _ _ rfl (And.intro rfl rfl) (by decide) rfl rfl ?_ ?_
  · simp -dsimp (decide := true) (disch := first | omega | simp (decide := true) only [hppb9]) only [hppb13, ↓brun_b, envOf, reduceIte, Nat.reduceEqDiff, Nat.reduceAdd, Nat.reduceSub, Nat.reduceMul, Nat.reduceBEq, Nat.reduceLeDiff, Nat.reduceLT, Int.reduceToNat, rho, frz1, ↓reduceIte]
  · simp -dsimp (decide := true) (disch := first | omega | simp (decide := true) only [hppb9]) only [hppb13, ↓brun_b, envOf, reduceIte, Nat.reduceEqDiff, Nat.reduceAdd, Nat.reduceSub, Nat.reduceMul, Nat.reduceBEq, Nat.reduceLeDiff, Nat.reduceLT, Int.reduceToNat, rho, frz1, ↓reduceIte]
    exact Ent_row rfl rfl (brows_length _).symm (by omega) fun i r hr => brow_row _ i r hr
def hppb14 :=
  (And.intro (And.intro (And.intro hppc4 hppc3) (And.intro hppc6 hppc7)) (And.intro (And.intro hppc8 hppc12) (And.intro @fh_flat @fk_flat)))
def hppb15 :=
  (And.intro (And.intro (And.intro hppc4 (And.intro hppc3 hppc6)) (And.intro hppc7 (And.intro hppc8 hppc12))) (And.intro (And.intro @bwk_a (And.intro @eq_self.{1} @fh_flat)) (And.intro (And.intro @fk_flat @forall_const.{1}) (And.intro @implies_true.{0} @implies_true.{1}))))
theorem sendBDown_calls (id pid : I16) (up : Bool) (mi mn pi pn base got : Int) (ts : List (List UInt8)) (tx : List UInt8) :
    SCall Try.prog 102 [.ptr 0 0 0, .slc 3 0 tx.length] [some (.row ⟨39, 1, false, 204, fun _ => EC.c ⟨id, .v (.bool up), .v (.bool false), .v (.int .i64 mi), .v (.int .i64 mn), .v (.int .i64 pi), .v (.int .i64 pn), pid, .ptr 1 0 0⟩⟩), some (.row ⟨3, 1, false, 197, fun _ => [.v (.int .i64 base), .slc 2 0 ts.length, .v (.int .i64 got)]⟩), some (.row ⟨1, ts.length, false, 35, trow ts⟩), some (.row ⟨1, tx.length, false, 5, brow tx⟩)]
      fun r L => r = .ret (.tup [.agg zF.c, .v (.int .i64 10)]) ∧ L = [none, none, none, none] := by
  refine SCall.mk (fn := Try.f102) (by kernel_rfl) rfl (Nat.le_of_ble_eq_true (by kernel_rfl)) ?_
  refine Sem.go (k := 1000) ?_
  simp -dsimp (decide := true) (disch := first | omega | simp (decide := true) only [hppb9]) only [hppb14, ↓brun_b, envOf, reduceIte, Nat.reduceEqDiff, Nat.reduceAdd, Nat.reduceSub, Nat.reduceMul, Nat.reduceBEq, Nat.reduceLeDiff, Nat.reduceLT, Int.reduceToNat, rho]
  refine SQ.runL (rs := [.cell 4 151, .tmp 5]) [0, 1, 2, 3] _ _ rfl (And.intro rfl rfl) (by decide) rfl rfl ?_ ?_
  · simp -dsimp (decide := true) (disch := first | omega | simp (decide := true) only [hppb9]) only [hppb15, ↓brun_b, envOf, reduceIte, Nat.reduceEqDiff, Nat.reduceAdd, Nat.reduceSub, Nat.reduceMul, Nat.reduceBEq, Nat.reduceLeDiff, Nat.reduceLT, Int.reduceToNat, rho, frz1, ↓reduceIte]
  · simp -dsimp (decide := true) (disch := first | omega | simp (decide := true) only [hppb9]) only [hppb15, ↓brun_b, envOf, reduceIte, Nat.reduceEqDiff, Nat.reduceAdd, Nat.reduceSub, Nat.reduceMul, Nat.reduceBEq, Nat.reduceLeDiff, Nat.reduceLT, Int.reduceToNat, rho, frz1, ↓reduceIte]
def hppb16 :=
  (And.intro (And.intro (And.intro hppc4 hppc3) (And.intro hppc6 hppc7)) (And.intro (And.intro hppc8 hppc12) (And.intro @brows_length (And.intro @fh_flat @fk_flat))))
theorem sendBLong_calls (id pid : I16) (up : Bool) (mi mn pi pn base got : Int) (ts : List (List UInt8)) (tx : List UInt8) (ht : 4096 < tx.length) :
    SCall Try.prog 102 [.ptr 0 0 0, .slc 3 0 tx.length] [some (.row ⟨39, 1, false, 204, fun _ => EC.c ⟨id, .v (.bool up), .v (.bool true), .v (.int .i64 mi), .v (.int .i64 mn), .v (.int .i64 pi), .v (.int .i64 pn), pid, .ptr 1 0 0⟩⟩), some (.row ⟨3, 1, false, 197, fun _ => [.v (.int .i64 base), .slc 2 0 ts.length, .v (.int .i64 got)]⟩), some (.row ⟨1, ts.length, false, 35, trow ts⟩), some (.row ⟨1, tx.length, false, 5, brow tx⟩)]
      fun r L => r = .ret (.tup [.agg zF.c, .v (.int .i64 4)]) ∧ L = [none, none, none, none] := by
  have h : decide ((tx.length : Int) > 4096) = true := decide_eq_true (by omega)
  have h' : decide ((4096 : Int) < (tx.length : Int)) = true := decide_eq_true (by omega)
  refine SCall.mk (fn := Try.f102) (by kernel_rfl) rfl (Nat.le_of_ble_eq_true (by kernel_rfl)) ?_
  refine Sem.go (k := 1000) ?_
  simp -dsimp (decide := true) (disch := first | omega | simp (decide := true) only [hppb9]) only [hppb16, ↓brun_b, envOf, reduceIte, Nat.reduceEqDiff, Nat.reduceAdd, Nat.reduceSub, Nat.reduceMul, Nat.reduceBEq, Nat.reduceLeDiff, Nat.reduceLT, Int.reduceToNat, rho, h, h']
  refine SQ.runL (rs := [.cell 4 151, .tmp 5]) [0, 1, 2, 3] _ _ rfl (And.intro rfl rfl) (by decide) rfl rfl ?_ ?_
  · simp -dsimp (decide := true) (disch := first | omega | simp (decide := true) only [hppb9]) only [hppb15, ↓brun_b, envOf, reduceIte, Nat.reduceEqDiff, Nat.reduceAdd, Nat.reduceSub, Nat.reduceMul, Nat.reduceBEq, Nat.reduceLeDiff, Nat.reduceLT, Int.reduceToNat, rho, frz1, ↓reduceIte]
  · simp -dsimp (decide := true) (disch := first | omega | simp (decide := true) only [hppb9]) only [hppb15, ↓brun_b, envOf, reduceIte, Nat.reduceEqDiff, Nat.reduceAdd, Nat.reduceSub, Nat.reduceMul, Nat.reduceBEq, Nat.reduceLeDiff, Nat.reduceLT, Int.reduceToNat, rho, frz1, ↓reduceIte]
def hppb17 :=
  (And.intro (And.intro hppc6 hppc7) (And.intro hppc8 hppc12))
def hppb18 :=
  (And.intro (And.intro (And.intro hppc4 hppc3) (And.intro hppc6 hppc7)) (And.intro (And.intro hppc8 hppc12) (And.intro @bl210s (And.intro @fh_flat @fk_flat))))
def hppb19 :=
  (And.intro (And.intro (And.intro hppc4 hppc3) (And.intro hppc5 hppc6)) (And.intro (And.intro hppc7 hppc8) (And.intro hppc12 (And.intro @fh_flat @fk_flat))))
def hppb20 :=
  (And.intro (And.intro (And.intro hppc4 (And.intro hppc3 hppc5)) (And.intro (And.intro hppc6 hppc7) (And.intro hppc8 hppc12))) (And.intro (And.intro @bwk_a (And.intro @eq_self.{1} @fh_flat)) (And.intro (And.intro @fk_flat @forall_const.{1}) (And.intro @implies_true.{0} @implies_true.{1}))))
theorem sendBOpen_calls (id pid : I16) (up : Bool) (mi mn pi pn got : Int) (base : Nat) (ts : List (List UInt8)) (tx : List UInt8) (ht : tx.length ≤ 4096) (h0 : base + ts.length < 4611686018427387904) (h1 : (ts.length + 1) * 24 ≤ 140737488355328) (n : Int) (hn : n = ((base + ts.length : Nat) : Int)) :
    SCall Try.prog 102 [.ptr 0 0 0, .slc 3 0 tx.length] [some (.row ⟨39, 1, false, 204, fun _ => EC.c ⟨id, .v (.bool up), .v (.bool true), .v (.int .i64 mi), .v (.int .i64 mn), .v (.int .i64 pi), .v (.int .i64 pn), pid, .ptr 1 0 0⟩⟩), some (.row ⟨3, 1, true, 197, fun _ => [.v (.int .i64 (base : Int)), .slc 2 0 ts.length, .v (.int .i64 got)]⟩), some (.row ⟨1, ts.length, true, 35, trow ts⟩), some (.row ⟨1, tx.length, false, 5, brow tx⟩)]
      fun r L => r = .ret (.tup [.agg (FC.c { zF with kind := .v (.int .i64 2), fi := .v (.int .i64 mi), fn := .v (.int .i64 mn), ti := .v (.int .i64 pi), tn := .v (.int .i64 pn), n := .v (.int .i64 n), tx := bsl tx }), .v (.int .i64 0)]) ∧ L = [none, some (.row ⟨3, 1, true, 197, fun _ => [.v (.int .i64 (base : Int)), .slc 4 0 (ts.length + 1), .v (.int .i64 got)]⟩), none, none, some (.row ⟨1, ts.length + 1, true, 35, trow (ts ++ [tx])⟩)] := by
  have h : decide ((tx.length : Int) > 4096) = false := decide_eq_false (by omega)
  have h' : decide ((4096 : Int) < (tx.length : Int)) = false := decide_eq_false (by omega)
  have hc := sendB_calls base got ts tx h0 h1 (by omega)
  rw [← hn] at hc
  refine SCall.mk (fn := Try.f102) (by kernel_rfl) rfl (Nat.le_of_ble_eq_true (by kernel_rfl)) ?_
  refine Sem.go (k := 1000) ?_
  simp -dsimp (decide := true) (disch := first | omega | simp (decide := true) only [hppb9]) only [hppb16, ↓brun_b, envOf, reduceIte, Nat.reduceEqDiff, Nat.reduceAdd, Nat.reduceSub, Nat.reduceMul, Nat.reduceBEq, Nat.reduceLeDiff, Nat.reduceLT, Int.reduceToNat, rho, h, h']
  refine SemOps.callw [1, 2, 3] cal.f50 (hc) rfl rfl rfl (by simp -dsimp (decide := true) (disch := first | omega | simp (decide := true) only [hppb9]) only [hppb15, ↓brun_b, envOf, reduceIte, Nat.reduceEqDiff, Nat.reduceAdd, Nat.reduceSub, Nat.reduceMul, Nat.reduceBEq, Nat.reduceLeDiff, Nat.reduceLT, Int.reduceToNat, rho, frz1, ↓reduceIte]) rfl (by simp -dsimp (decide := true) (disch := first | omega | simp (decide := true) only [hppb9]) only [hppb15, ↓brun_b, envOf, reduceIte, Nat.reduceEqDiff, Nat.reduceAdd, Nat.reduceSub, Nat.reduceMul, Nat.reduceBEq, Nat.reduceLeDiff, Nat.reduceLT, Int.reduceToNat, rho, frz1, ↓reduceIte]) (by simp -dsimp (decide := true) (disch := first | omega | simp (decide := true) only [hppb9]) only [hppb17, ↓brun_b, envOf, reduceIte, Nat.reduceEqDiff, Nat.reduceAdd, Nat.reduceSub, Nat.reduceMul, Nat.reduceBEq, Nat.reduceLeDiff, Nat.reduceLT, Int.reduceToNat]) ?_
  refine SemOps.go (k := 1000) ?_
  simp -dsimp (decide := true) (disch := first | omega | simp (decide := true) only [hppb9]) only [hppb14, ↓brun_b, envOf, reduceIte, Nat.reduceEqDiff, Nat.reduceAdd, Nat.reduceSub, Nat.reduceMul, Nat.reduceBEq, Nat.reduceLeDiff, Nat.reduceLT, Int.reduceToNat, rho]
  refine Sem.draw' (by kernel_rfl) (.one 0 (.one 1 (.one 2 (.one 3 (.one 4 (.one 5 (.one 6 (.one 7 (.one 8 (.one 9 (.one 10 (.one 11 (.alt 12 (.alt 13 (.one 14 .done) .non) .non))))))))))))) [4] (by kernel_rfl) (fun G ff hG hf => ?_)
  simp (decide := true) only [hppb7, Nat.reduceAdd] at hG ⊢
  simp -dsimp (decide := true) (disch := first | omega | simp (decide := true) only [hppb9]) only [hppb18, ↓brun_b, envOf, reduceIte, Nat.reduceEqDiff, Nat.reduceAdd, Nat.reduceSub, Nat.reduceMul, Nat.reduceBEq, Nat.reduceLeDiff, Nat.reduceLT, Int.reduceToNat, rho, hG]
  refine OpSem.callw [3] cal.f123 (plainB_k2 mi mn pi pn n tx (by omega)) rfl rfl (by simp -dsimp (decide := true) (disch := first | omega | simp (decide := true) only [hppb9]) only [hppb15, ↓brun_b, envOf, reduceIte, Nat.reduceEqDiff, Nat.reduceAdd, Nat.reduceSub, Nat.reduceMul, Nat.reduceBEq, Nat.reduceLeDiff, Nat.reduceLT, Int.reduceToNat, rho, frz1, ↓reduceIte]) rfl (by simp -dsimp (decide := true) (disch := first | omega | simp (decide := true) only [hppb9]) only [hppb15, ↓brun_b, envOf, reduceIte, Nat.reduceEqDiff, Nat.reduceAdd, Nat.reduceSub, Nat.reduceMul, Nat.reduceBEq, Nat.reduceLeDiff, Nat.reduceLT, Int.reduceToNat, rho, frz1, ↓reduceIte]) (by simp -dsimp (decide := true) (disch := first | omega | simp (decide := true) only [hppb9]) only [hppb17, ↓brun_b, envOf, reduceIte, Nat.reduceEqDiff, Nat.reduceAdd, Nat.reduceSub, Nat.reduceMul, Nat.reduceBEq, Nat.reduceLeDiff, Nat.reduceLT, Int.reduceToNat]) ?_
  simp -dsimp (decide := true) (disch := first | omega | simp (decide := true) only [hppb9]) only [hppb14, ↓brun_b, envOf, reduceIte, Nat.reduceEqDiff, Nat.reduceAdd, Nat.reduceSub, Nat.reduceMul, Nat.reduceBEq, Nat.reduceLeDiff, Nat.reduceLT, Int.reduceToNat, rho, hG]
  refine hf _ (Sem.go (k := 1000) ?_)
  simp (decide := true) only [back_mk, backL_in, backL_row, backL_none, backL_nil, Nat.zero_add, Nat.reduceAdd]
  simp -dsimp (decide := true) (disch := first | omega | simp (decide := true) only [hppb9]) only [hppb19, ↓brun_b, envOf, reduceIte, Nat.reduceEqDiff, Nat.reduceAdd, Nat.reduceSub, Nat.reduceMul, Nat.reduceBEq, Nat.reduceLeDiff, Nat.reduceLT, Int.reduceToNat, rho]
  refine SQ.runL (rs := [.cell 4 151, .tmp 5]) [0, 1, 2, 3, 5] _ _ rfl (And.intro rfl rfl) (by decide) rfl rfl ?_ ?_
  · simp -dsimp (decide := true) (disch := first | omega | simp (decide := true) only [hppb9]) only [hppb20, ↓brun_b, envOf, reduceIte, Nat.reduceEqDiff, Nat.reduceAdd, Nat.reduceSub, Nat.reduceMul, Nat.reduceBEq, Nat.reduceLeDiff, Nat.reduceLT, Int.reduceToNat, rho, frz1, ↓reduceIte]
  · simp -dsimp (decide := true) (disch := first | omega | simp (decide := true) only [hppb9]) only [hppb20, ↓brun_b, envOf, reduceIte, Nat.reduceEqDiff, Nat.reduceAdd, Nat.reduceSub, Nat.reduceMul, Nat.reduceBEq, Nat.reduceLeDiff, Nat.reduceLT, Int.reduceToNat, rho, frz1, ↓reduceIte]
def hppb21 :=
  (And.intro (And.intro (And.intro hppc4 hppc3) (And.intro hppc6 hppc8)) (And.intro (And.intro @fh_flat @fk_flat) (And.intro @tab.a124 (And.intro @tab.s124 @tab.u124))))
def hppb22 :=
  (And.intro (And.intro (And.intro hppc4 (And.intro hppc3 hppc6)) (And.intro (And.intro hppc8 @bwk_a) (And.intro @eq_self.{1} @fh_flat))) (And.intro (And.intro @fk_flat (And.intro @forall_const.{1} @implies_true.{0})) (And.intro (And.intro @implies_true.{1} @tab.a124) (And.intro @tab.s124 @tab.u124))))
theorem frames_nil : Pure Try.prog 95 [.v (.slice none 0 0), .v (.slice none 0 0)] (.v (.bool true)) := by
  refine SCall.mk (fn := Try.f95) (by kernel_rfl) rfl (Nat.le_of_ble_eq_true (by kernel_rfl)) ?_
  refine Sem.go (k := 1000) ?_
  simp -dsimp (decide := true) (disch := first | omega | simp (decide := true) only [hppb9]) only [hppb21, ↓brun_b, envOf, reduceIte, Nat.reduceEqDiff, Nat.reduceAdd, Nat.reduceSub, Nat.reduceMul, Nat.reduceBEq, Nat.reduceLeDiff, Nat.reduceLT, Int.reduceToNat, rho]
  refine Sem.loop (ι := Unit) (fun _ => ⟨27, 0, [(0, .v (.slice none 0 0)), (1, .v (.slice none 0 0)), (12, .v (.int .i64 0)), (13, .v (.int .i64 0))], []⟩) (fun _ => 0) () [] ?_ ?_
  · (refine Wk.ofC ?_; simp -dsimp (decide := true) (disch := first | omega | simp (decide := true) only [hppb9]) only [hppb22, ↓brun_b, envOf, reduceIte, Nat.reduceEqDiff, Nat.reduceAdd, Nat.reduceSub, Nat.reduceMul, Nat.reduceBEq, Nat.reduceLeDiff, Nat.reduceLT, Int.reduceToNat, rho, frz1, ↓reduceIte])
  · rintro ⟨⟩
    refine Sem.go (k := 1000) ?_
    simp -dsimp (decide := true) (disch := first | omega | simp (decide := true) only [hppb9]) only [hppb21, ↓brun_b, envOf, reduceIte, Nat.reduceEqDiff, Nat.reduceAdd, Nat.reduceSub, Nat.reduceMul, Nat.reduceBEq, Nat.reduceLeDiff, Nat.reduceLT, Int.reduceToNat, rho]
    refine SQ.answer (rs := [.tmp 4]) rfl rfl ?_
    simp -dsimp (decide := true) (disch := first | omega | simp (decide := true) only [hppb9]) only [hppb22, ↓brun_b, envOf, reduceIte, Nat.reduceEqDiff, Nat.reduceAdd, Nat.reduceSub, Nat.reduceMul, Nat.reduceBEq, Nat.reduceLeDiff, Nat.reduceLT, Int.reduceToNat, rho, frz1, ↓reduceIte]
end Go.Proofs
namespace Go.Proofs
open Go Go.SL
set_option maxRecDepth 100000
structure GOk (G : Frm) : Prop where
  n : I64 G.n
  tr : G.tr.length * 8 ≤ 140737488355328
  is : G.is.length * 16 ≤ 140737488355328
  val : G.val.length ≤ 140737488355328
  tx : G.tx.length ≤ 140737488355328
theorem Frm.wf.gok {G : Frm} (h : G.wf) : GOk G := by
  have h1 := h.ltr
  have h2 := h.lis
  have h3 := h.lval
  have h4 := h.ltx
  simp only [reachBytes] at h1 h2 h3 h4
  exact ⟨h.n, by omega, by omega, by omega, by omega⟩
theorem gok_hi (mi mn pi pn : Int) (a : I16) : GOk (hiF mi mn pi pn a) := ⟨⟨(by show (-9223372036854775808 : Int) ≤ 0; decide), (by show (0 : Int) < 9223372036854775808; decide)⟩, by simp [hiF, zFrm], by simp [hiF, zFrm], by simp [hiF, zFrm], by simp [hiF, zFrm]⟩
theorem gok_ak (mi mn pi pn n : Int) (h : I64 n) : GOk (akF mi mn pi pn n) := ⟨h, by simp [akF, zFrm], by simp [akF, zFrm], by simp [akF, zFrm], by simp [akF, zFrm]⟩
theorem gok_da (mi mn pi pn n : Int) (t : List UInt8) (h : I64 n) (ht : t.length ≤ 140737488355328) : GOk (daF mi mn pi pn n t) := ⟨h, by simp [daF, zFrm], by simp [daF, zFrm], by simp [daF, zFrm], ht⟩
structure FCells (G : Frm) (c : List SV) : Prop where
  len : c.length = 95
  one : c.all SV.one = true
  flat : SV.flatL c = true
  ent : ∀ (fz : Nat → Option SB) (ρ : Nat → Nat), EntL fz ρ G.fc.c c
theorem FCells.self (G : Frm) : FCells G G.fc.c := ⟨FC.c_length _, frm_one G, Frm.flat G, fun _ _ => EntL.self (Frm.flat G)⟩
theorem fit_any (F : Frm) (hf : GOk F) (kd a b : Int) (t : List UInt8) (id pid : I16) (up op : Bool) (mi mn pi pn kn gt : Int) (k : Nat) (ts : List (List UInt8)) :
    ∃ (G : Frm) (c : List SV), GOk G ∧ FCells G c ∧ SCall Try.prog 105 [.agg (.v (.int .i64 kd) :: .v (.int .i64 a) :: .v (.int .i64 b) :: bsl t :: F.fc.c), .ptr 0 0 0] [some (.row ⟨41, 1, false, 142, fun _ => RE.c ⟨id, .v (.bool up), .v (.bool op), .v (.int .i64 mi), .v (.int .i64 mn), .v (.int .i64 pi), .v (.int .i64 pn), pid, .slc 1 0 k, .v (.int .i64 kn), .v (.int .i64 gt)⟩⟩), some (.row ⟨1, k, false, 35, trow ts⟩)]
      fun r L => r = .ret (.agg c) ∧ L = [none, none] := by
  by_cases h4 : kd = 4
  · exact ⟨F, _, hf, FCells.self F, fit_own F kd a b t h4 id pid up op mi mn pi pn kn gt k ts⟩
  by_cases h5 : kd = 5
  · subst h5
    by_cases h3 : F.kind = 3
    · refine ⟨akF pi pn mi mn F.n, _, gok_ak _ _ _ _ _ hf.n, ⟨FC.c_length _, one_fk _ _ _ _ _, fk_flat _ _ _ _ _, fun fz ρ => akF_ent _ _ _ _ _⟩, fit_ack F a b t (decide_eq_true h3) id pid up op mi mn pi pn kn gt k ts⟩
    · refine ⟨daF pi pn mi mn F.n F.tx, _, gok_da _ _ _ _ _ _ hf.n hf.tx, ⟨FC.c_length _, ?_, ?_, fun fz ρ => daF_ent _ _ _ _ _ _⟩, fit_data F a b t (decide_eq_false h3) id pid up op mi mn pi pn kn gt k ts⟩
      · simp [FC.one_eq, zF, one_v, oneCell_int, oneCell_bool, oneCell_slice, one_rsl]
      · simp [FC.flat_eq, zF, flat_v, flat_rsl, flatR_brows]
  · exact ⟨hF F.fi F.fn mi mn F.a, _, gok_hi _ _ _ _ _, FCells.self _, fit_else F kd a b t (decide_eq_false h4) (decide_eq_false h5) id pid up op mi mn pi pn kn gt k ts⟩
theorem hear_else (G : Frm) (hG : GOk G) (k1 : G.kind ≠ 1) (k2 : G.kind ≠ 2) (k3 : G.kind ≠ 3) (id pid : I16) (op : Bool) (mi mn pi pn nxi nxn base got : Int) (ts : List (List UInt8)) :
    SCall Try.prog 106 [.ptr 0 0 0, .agg G.fc.c, .agg [.v (.int .i64 nxi), .v (.int .i64 nxn)]] [some (.row ⟨39, 1, false, 204, fun _ => EC.c ⟨id, .v (.bool true), .v (.bool op), .v (.int .i64 mi), .v (.int .i64 mn), .v (.int .i64 pi), .v (.int .i64 pn), pid, .ptr 1 0 0⟩⟩), some (.row ⟨3, 1, false, 197, fun _ => [.v (.int .i64 base), .slc 2 0 ts.length, .v (.int .i64 got)]⟩), some (.row ⟨1, ts.length, false, 35, trow ts⟩)]
      fun r L => r = .ret (.agg [.v (.bool false), .v (.bool false), .v (.slice none 0 0), .v (.bool false), .v (.slice none 0 0)]) ∧ L = [none, none, none] := by
  by_cases hn : G.kind < 1 ∨ 12 < G.kind
  · exact hear_none G hn id pid op mi mn pi pn nxi nxn base got ts
  by_cases h4 : G.kind = 4
  · exact hear_other G _ true (by simp [SV.flat, SU.flat, DR.flat, PT.flat, PE.flat, AK.flat, AD.flat, PK.flat, CP.flat, GT.flat, flat_v, flat_rsl, lrows_flat, idrs_flat, flatR_brows]) (of_k4 G h4 hG.tr) (miss214 226 _ (by decide)) (miss210 226 _ (by decide)) (miss218 226 _ (by decide)) rfl id pid op mi mn pi pn nxi nxn base got ts
  by_cases h5 : G.kind = 5
  · exact hear_other G _ true (by simp [SV.flat, SU.flat, DR.flat, PT.flat, PE.flat, AK.flat, AD.flat, PK.flat, CP.flat, GT.flat, flat_v, flat_rsl, lrows_flat, idrs_flat, flatR_brows]) (of_k5 G h5) (miss214 230 _ (by decide)) (miss210 230 _ (by decide)) (miss218 230 _ (by decide)) rfl id pid op mi mn pi pn nxi nxn base got ts
  by_cases h6 : G.kind = 6
  · exact hear_other G _ true (by simp [SV.flat, SU.flat, DR.flat, PT.flat, PE.flat, AK.flat, AD.flat, PK.flat, CP.flat, GT.flat, flat_v, flat_rsl, lrows_flat, idrs_flat, flatR_brows]) (of_k6 G h6) (miss214 232 _ (by decide)) (miss210 232 _ (by decide)) (miss218 232 _ (by decide)) rfl id pid op mi mn pi pn nxi nxn base got ts
  by_cases h7 : G.kind = 7
  · exact hear_other G _ true (by simp [SV.flat, SU.flat, DR.flat, PT.flat, PE.flat, AK.flat, AD.flat, PK.flat, CP.flat, GT.flat, flat_v, flat_rsl, lrows_flat, idrs_flat, flatR_brows]) (of_k7 G h7 hG.is) (miss214 235 _ (by decide)) (miss210 235 _ (by decide)) (miss218 235 _ (by decide)) rfl id pid op mi mn pi pn nxi nxn base got ts
  by_cases h8 : G.kind = 8
  · exact hear_other G _ true (by simp [SV.flat, SU.flat, DR.flat, PT.flat, PE.flat, AK.flat, AD.flat, PK.flat, CP.flat, GT.flat, flat_v, flat_rsl, lrows_flat, idrs_flat, flatR_brows]) (of_k8 G h8 hG.tr) (miss214 237 _ (by decide)) (miss210 237 _ (by decide)) (miss218 237 _ (by decide)) rfl id pid op mi mn pi pn nxi nxn base got ts
  by_cases h9 : G.kind = 9
  · exact hear_other G _ true (by simp [SV.flat, SU.flat, DR.flat, PT.flat, PE.flat, AK.flat, AD.flat, PK.flat, CP.flat, GT.flat, flat_v, flat_rsl, lrows_flat, idrs_flat, flatR_brows]) (of_k9 G h9) (miss214 239 _ (by decide)) (miss210 239 _ (by decide)) (miss218 239 _ (by decide)) rfl id pid op mi mn pi pn nxi nxn base got ts
  by_cases h10 : G.kind = 10
  · exact hear_other G _ true (by simp [SV.flat, SU.flat, DR.flat, PT.flat, PE.flat, AK.flat, AD.flat, PK.flat, CP.flat, GT.flat, flat_v, flat_rsl, lrows_flat, idrs_flat, flatR_brows]) (of_k10 G h10 hG.tx hG.val) (miss214 241 _ (by decide)) (miss210 241 _ (by decide)) (miss218 241 _ (by decide)) rfl id pid op mi mn pi pn nxi nxn base got ts
  by_cases h11 : G.kind = 11
  · exact hear_other G _ true (by simp [SV.flat, SU.flat, DR.flat, PT.flat, PE.flat, AK.flat, AD.flat, PK.flat, CP.flat, GT.flat, flat_v, flat_rsl, lrows_flat, idrs_flat, flatR_brows]) (of_k11 G h11 hG.val) (miss214 244 _ (by decide)) (miss210 244 _ (by decide)) (miss218 244 _ (by decide)) rfl id pid op mi mn pi pn nxi nxn base got ts
  by_cases h12 : G.kind = 12
  · exact hear_other G _ true (by simp [SV.flat, SU.flat, DR.flat, PT.flat, PE.flat, AK.flat, AD.flat, PK.flat, CP.flat, GT.flat, flat_v, flat_rsl, lrows_flat, idrs_flat, flatR_brows]) (of_k12 G h12) (miss214 246 _ (by decide)) (miss210 246 _ (by decide)) (miss218 246 _ (by decide)) rfl id pid op mi mn pi pn nxi nxn base got ts
  omega
structure Td where
  died : Bool
  opened : Bool
  came : Bool
  tx : List UInt8
  out : List Frm
def Td.none : Td := ⟨false, false, false, [], []⟩
def tdrow (t : Td) : List SV := [.v (.bool t.died), .v (.bool t.opened), bsl t.tx, .v (.bool t.came), .rsl 95 (frows t.out)]
theorem tdrow_eq (t : Td) : tdrow t = [.v (.bool t.died), .v (.bool t.opened), bsl t.tx, .v (.bool t.came), .rsl 95 (frows t.out)] := rfl
structure TdOk (t : Td) : Prop where
  out : t.out.length ≤ 1
  fr : ∀ F ∈ t.out, F.tr.length < 4611686018427387904 ∧ F.is.length < 4611686018427387904
  tx : t.tx.length ≤ 140737488355328
theorem TdOk.none : TdOk Td.none := ⟨by simp [Td.none], fun F h => (by cases h), by simp [Td.none]⟩
theorem hi_lt (mi mn pi pn : Int) (a : I16) : (hiF mi mn pi pn a).tr.length < 4611686018427387904 ∧ (hiF mi mn pi pn a).is.length < 4611686018427387904 := by simp [hiF, zFrm]
theorem ak_lt (mi mn pi pn n : Int) : (akF mi mn pi pn n).tr.length < 4611686018427387904 ∧ (akF mi mn pi pn n).is.length < 4611686018427387904 := by simp [akF, zFrm]
theorem da_lt (mi mn pi pn n : Int) (t : List UInt8) : (daF mi mn pi pn n t).tr.length < 4611686018427387904 ∧ (daF mi mn pi pn n t).is.length < 4611686018427387904 := by simp [daF, zFrm]
theorem one_lt {F : Frm} (h : F.tr.length < 4611686018427387904 ∧ F.is.length < 4611686018427387904) : ∀ G ∈ [F], G.tr.length < 4611686018427387904 ∧ G.is.length < 4611686018427387904 := fun G hG => by
  rw [List.mem_singleton] at hG
  rw [hG]; exact h
def daL (mi mn pi pn : Int) (base : Nat) (ts : List (List UInt8)) : List Frm := (List.range ts.length).map fun e => daF mi mn pi pn ((base + e : Nat) : Int) (ts.getD e [])
theorem daL_len (mi mn pi pn : Int) (base : Nat) (ts : List (List UInt8)) : (frows (daL mi mn pi pn base ts)).length = ts.length := by simp [frows, daL]
theorem daL_lt (mi mn pi pn : Int) (base : Nat) (ts : List (List UInt8)) : ∀ G ∈ daL mi mn pi pn base ts, G.tr.length < 4611686018427387904 ∧ G.is.length < 4611686018427387904 := fun G hG => by
  simp only [daL, List.mem_map] at hG
  obtain ⟨e, _, rfl⟩ := hG
  exact da_lt _ _ _ _ _ _
theorem daL_ent {fz : Nat → Option SB} {ρ : Nat → Nat} (mi mn pi pn : Int) (base : Nat) (ts : List (List UInt8)) (i : Nat) (r : List SV) (hr : (frows (daL mi mn pi pn base ts))[i]? = some r) : EntL fz ρ r (dfam mi mn pi pn base ts (0 + i)) := by
  have hi : i < ts.length := by
    rcases Nat.lt_or_ge i ts.length with h | h
    · exact h
    · rw [List.getElem?_eq_none (by rw [daL_len]; exact h)] at hr; cases hr
  simp only [frows, daL, List.map_map, List.getElem?_map, List.getElem?_range hi, Option.map_some, Function.comp_apply] at hr
  injection hr with hr
  rw [← hr, Nat.zero_add]
  exact daF_ent _ _ _ _ _ _
def hppc14 :=
  (And.intro (And.intro (And.intro @tab.a162 @tab.f162x0) (And.intro @tab.f162x1 @tab.f162x2)) (And.intro (And.intro @tab.f162x3 @tab.f162x4) (And.intro @tab.s162 @tab.u162)))
def hppb23 :=
  (And.intro (And.intro (And.intro hppc4 (And.intro hppc3 hppc5)) (And.intro (And.intro hppc6 hppc7) (And.intro hppc8 hppc14))) (And.intro (And.intro hppc12 (And.intro hppc13 @fh_flat)) (And.intro (And.intro @fk_flat @tab.a124) (And.intro @tab.s124 @tab.u124))))
def hppb24 :=
  (And.intro hppc1 (And.intro @fh_flat @fk_flat))
def hppb25 :=
  (And.intro (And.intro (And.intro hppc6 hppc7) (And.intro hppc8 hppc14)) (And.intro (And.intro hppc12 hppc13) (And.intro @tab.a124 (And.intro @tab.s124 @tab.u124))))
def hppb26 :=
  (And.intro (And.intro (And.intro hppc4 (And.intro hppc3 hppc5)) (And.intro (And.intro hppc6 hppc7) (And.intro hppc8 hppc14))) (And.intro (And.intro (And.intro hppc12 hppc13) (And.intro @fh_flat @fk_flat)) (And.intro (And.intro @hit210 @tab.a124) (And.intro @tab.s124 @tab.u124))))
def hppb27 :=
  (And.intro (And.intro (And.intro (And.intro hppc4 hppc3) (And.intro hppc6 hppc7)) (And.intro (And.intro hppc8 hppc14) (And.intro hppc12 (And.intro hppc13 @bwk_a)))) (And.intro (And.intro (And.intro @eq_self.{1} @fh_flat) (And.intro @fk_flat @forall_const.{1})) (And.intro (And.intro @implies_true.{0} @implies_true.{1}) (And.intro @tab.a124 (And.intro @tab.s124 @tab.u124)))))
def hppb28 :=
  (And.intro (And.intro (And.intro (And.intro hppc4 hppc3) (And.intro hppc5 hppc6)) (And.intro (And.intro hppc7 hppc8) (And.intro hppc14 hppc12))) (And.intro (And.intro (And.intro hppc13 @bs124) (And.intro @fh_flat @fk_flat)) (And.intro (And.intro @one_fk @tab.a124) (And.intro @tab.s124 @tab.u124))))
def hppb29 :=
  (And.intro (And.intro (And.intro (And.intro hppc4 hppc3) (And.intro hppc5 hppc6)) (And.intro (And.intro hppc7 hppc8) (And.intro hppc14 (And.intro hppc12 hppc13)))) (And.intro (And.intro (And.intro @bwk_a @eq_self.{1}) (And.intro @fh_flat (And.intro @fk_flat @forall_const.{1}))) (And.intro (And.intro @implies_true.{0} @implies_true.{1}) (And.intro @tab.a124 (And.intro @tab.s124 @tab.u124)))))
set_option maxHeartbeats 4000000 in
theorem hear_dataK (F : Frm) (hk : F.kind = 2) (hl : F.tx.length ≤ 140737488355328) (hn : I64 F.n) (id pid : I16) (op : Bool) (mi mn pi pn nxi nxn base : Int) (got : Nat) (g2 : Int) (ts : List (List UInt8)) (hg : (got : Int) < 4611686018427387904)
    (hm1 : (decide (F.ti = mi) && decide (F.tn = mn)) = true) (hm2 : (decide (F.fi = pi) && decide (F.fn = pn)) = true) (cm : Bool) (hcm : decide (F.n = (got : Int) + 1) = cm) (hg2 : g2 = bif cm then (got : Int) + 1 else got) :
    SCall Try.prog 106 [.ptr 0 0 0, .agg F.fc.c, .agg [.v (.int .i64 nxi), .v (.int .i64 nxn)]] [some (.row ⟨39, 1, true, 204, fun _ => EC.c ⟨id, .v (.bool true), .v (.bool op), .v (.int .i64 mi), .v (.int .i64 mn), .v (.int .i64 pi), .v (.int .i64 pn), pid, .ptr 1 0 0⟩⟩), some (.row ⟨3, 1, true, 197, fun _ => [.v (.int .i64 base), .slc 2 0 ts.length, .v (.int .i64 (got : Int))]⟩), some (.row ⟨1, ts.length, false, 35, trow ts⟩)]
      fun r L => r = .ret (.agg [.v (.bool false), .v (.bool (!op)), (bif cm then bsl F.tx else .v (.slice none 0 0)), .v (.bool cm), .slc 3 0 1]) ∧ L = [some (.row ⟨39, 1, true, 204, fun _ => EC.c ⟨id, .v (.bool true), .v (.bool true), .v (.int .i64 mi), .v (.int .i64 mn), .v (.int .i64 pi), .v (.int .i64 pn), pid, .ptr 1 0 0⟩⟩), some (.row ⟨3, 1, true, 197, fun _ => [.v (.int .i64 base), .slc 2 0 ts.length, .v (.int .i64 g2)]⟩), none, some (.row ⟨95, 1, true, 151, fun _ => FC.c { zF with kind := .v (.int .i64 3), fi := .v (.int .i64 mi), fn := .v (.int .i64 mn), ti := .v (.int .i64 pi), tn := .v (.int .i64 pn), n := .v (.int .i64 g2) }⟩)] := by
  have ho := of_data F hk hl
  have hc := came_calls base F.n got ts.length (trow ts) hn.1 hn.2 hg
  have hh := ack_calls id pid true true mi mn pi pn base g2 ts
  simp only [Frm.fc] at ho ⊢
  have e : ((if F.n = (got : Int) + 1 then got + 1 else got : Nat) : Int) = g2 := by
    rw [hg2, ← hcm]
    by_cases h : F.n = (got : Int) + 1 <;> simp [h]
  rw [hcm, e] at hc
  clear hcm hg2 e
  cases cm
  all_goals
    simp only [cond_true, cond_false]
    refine SCall.mk (fn := Try.f106) (by kernel_rfl) rfl (Nat.le_of_ble_eq_true (by kernel_rfl)) ?_
    refine Sem.go (k := 1000) ?_
    simp -dsimp (decide := true) (disch := first | omega | simp (decide := true) only [hppb0]) only [hppb23, ↓brun_b, envOf, reduceIte, Nat.reduceEqDiff, Nat.reduceAdd, Nat.reduceSub, Nat.reduceMul, Nat.reduceBEq, Nat.reduceLeDiff, Nat.reduceLT, Int.reduceToNat, rho]
    refine SemOps.callq (k := 1000) cal.f119 (ho) rfl rfl rfl rfl (by simp only [bflat_a, hppb24]) (by simp only [bflat_a, hppb24]) (by simp -dsimp (decide := true) (disch := first | omega | simp (decide := true) only [hppb0]) only [hppb25, ↓brun_b, envOf, reduceIte, Nat.reduceEqDiff, Nat.reduceAdd, Nat.reduceSub, Nat.reduceMul, Nat.reduceBEq, Nat.reduceLeDiff, Nat.reduceLT, Int.reduceToNat]) ?_
    simp -dsimp (decide := true) (disch := first | omega | simp (decide := true) only [hppb0]) only [hppb26, ↓brun_b, envOf, reduceIte, Nat.reduceEqDiff, Nat.reduceAdd, Nat.reduceSub, Nat.reduceMul, Nat.reduceBEq, Nat.reduceLeDiff, Nat.reduceLT, Int.reduceToNat, rho, fun v => miss214 210 v (by decide)]
    refine Sem.draw' (by kernel_rfl) (.one 0 (.one 1 (.one 2 (.one 3 (.one 4 (.one 5 (.one 6 (.one 7 (.one 8 (.one 9 (.one 10 (.one 11 (.one 12 (.one 13 (.one 14 (.one 15 .done)))))))))))))))) [] (by kernel_rfl) (fun G ff hG hf => ?_)
    simp (decide := true) only [hppb7, Nat.reduceAdd] at hG ⊢
    simp -dsimp (decide := true) (disch := first | omega | simp (decide := true) only [hppb0]) only [hppb23, ↓brun_b, envOf, reduceIte, Nat.reduceEqDiff, Nat.reduceAdd, Nat.reduceSub, Nat.reduceMul, Nat.reduceBEq, Nat.reduceLeDiff, Nat.reduceLT, Int.reduceToNat, rho, sBin_agg .eql 23 _ _ _ (I16.cellsEq _ _), sBin_agg .eql 135 _ _ _ (ceq135 _ _ _ _), sBin_agg .eql 144 _ _ _ (ceq144 _ _ _ _), sBin_agg .eql 147 _ _ _ (ceq147 _ _ _ _), sBin_agg .neq 23 _ _ _ (I16.cellsEq _ _), sBin_agg .neq 135 _ _ _ (ceq135 _ _ _ _), hG, hm1, hm2]
    refine And.intro (flat135 _ _ _ _) (And.intro (flat135 _ _ _ _) ?_)
    refine hf _ (Sem.go (k := 1000) ?_)
    simp (decide := true) only [back_mk, backL_in, backL_row, backL_none, backL_nil, Nat.zero_add, Nat.reduceAdd]
    simp -dsimp (decide := true) (disch := first | omega | simp (decide := true) only [hppb0]) only [hppb23, ↓brun_b, envOf, reduceIte, Nat.reduceEqDiff, Nat.reduceAdd, Nat.reduceSub, Nat.reduceMul, Nat.reduceBEq, Nat.reduceLeDiff, Nat.reduceLT, Int.reduceToNat, rho]
    refine Sem.draw' (by kernel_rfl) (.one 0 (.one 1 (.one 2 (.one 3 (.one 4 (.one 5 (.alt 6 .done .non))))))) [1] (by kernel_rfl) (fun G ff hG hf => ?_)
    simp (decide := true) only [hppb7, Nat.reduceAdd] at hG ⊢
    simp -dsimp (decide := true) (disch := first | omega | simp (decide := true) only [hppb0]) only [hppb23, ↓brun_b, envOf, reduceIte, Nat.reduceEqDiff, Nat.reduceAdd, Nat.reduceSub, Nat.reduceMul, Nat.reduceBEq, Nat.reduceLeDiff, Nat.reduceLT, Int.reduceToNat, rho, hG]
    refine OpSem.callw [1, 2] cal.f54 (hc) rfl rfl (by simp -dsimp (decide := true) (disch := first | omega | simp (decide := true) only [hppb0]) only [hppb27, ↓brun_b, envOf, reduceIte, Nat.reduceEqDiff, Nat.reduceAdd, Nat.reduceSub, Nat.reduceMul, Nat.reduceBEq, Nat.reduceLeDiff, Nat.reduceLT, Int.reduceToNat, rho, frz1, ↓reduceIte]) rfl (by simp -dsimp (decide := true) (disch := first | omega | simp (decide := true) only [hppb0]) only [hppb27, ↓brun_b, envOf, reduceIte, Nat.reduceEqDiff, Nat.reduceAdd, Nat.reduceSub, Nat.reduceMul, Nat.reduceBEq, Nat.reduceLeDiff, Nat.reduceLT, Int.reduceToNat, rho, frz1, ↓reduceIte]) (by simp -dsimp (decide := true) (disch := first | omega | simp (decide := true) only [hppb0]) only [hppb25, ↓brun_b, envOf, reduceIte, Nat.reduceEqDiff, Nat.reduceAdd, Nat.reduceSub, Nat.reduceMul, Nat.reduceBEq, Nat.reduceLeDiff, Nat.reduceLT, Int.reduceToNat]) ?_
    simp -dsimp (decide := true) (disch := first | omega | simp (decide := true) only [hppb0]) only [hppb23, ↓brun_b, envOf, reduceIte, Nat.reduceEqDiff, Nat.reduceAdd, Nat.reduceSub, Nat.reduceMul, Nat.reduceBEq, Nat.reduceLeDiff, Nat.reduceLT, Int.reduceToNat, rho, hG]
    refine hf _ (Sem.go (k := 1000) ?_)
    simp (decide := true) only [back_mk, backL_in, backL_row, backL_none, backL_nil, Nat.zero_add, Nat.reduceAdd]
    simp -dsimp (decide := true) (disch := first | omega | simp (decide := true) only [hppb0]) only [hppb23, ↓brun_b, envOf, reduceIte, Nat.reduceEqDiff, Nat.reduceAdd, Nat.reduceSub, Nat.reduceMul, Nat.reduceBEq, Nat.reduceLeDiff, Nat.reduceLT, Int.reduceToNat, rho]
    refine Sem.draw' (by kernel_rfl) (.one 0 (.one 2 (.alt 1 (.alt 3 (.alt 4 (.alt 5 (.one 6 (.alt 7 .done .non)) .non) .non) .non) (.alt 3 (.alt 1 (.alt 4 (.alt 5 (.one 6 (.alt 7 .done .non)) .non) .non) (.alt 4 (.alt 1 (.alt 5 (.one 6 (.alt 7 .done .non)) .non) .non) .non)) .non)))) [7] (by kernel_rfl) (fun G ff hG hf => ?_)
    simp (decide := true) only [hppb7, Nat.reduceAdd] at hG ⊢
    simp -dsimp (decide := true) (disch := first | omega | simp (decide := true) only [hppb0]) only [hppb23, ↓brun_b, envOf, reduceIte, Nat.reduceEqDiff, Nat.reduceAdd, Nat.reduceSub, Nat.reduceMul, Nat.reduceBEq, Nat.reduceLeDiff, Nat.reduceLT, Int.reduceToNat, rho, hG]
    refine And.intro ?_ ?_
    all_goals
      refine OpSem.callw [0, 1, 2] cal.f141 (hh) rfl rfl (by simp -dsimp (decide := true) (disch := first | omega | simp (decide := true) only [hppb0]) only [hppb27, ↓brun_b, envOf, reduceIte, Nat.reduceEqDiff, Nat.reduceAdd, Nat.reduceSub, Nat.reduceMul, Nat.reduceBEq, Nat.reduceLeDiff, Nat.reduceLT, Int.reduceToNat, rho, frz1, ↓reduceIte]) rfl (by simp -dsimp (decide := true) (disch := first | omega | simp (decide := true) only [hppb0]) only [hppb27, ↓brun_b, envOf, reduceIte, Nat.reduceEqDiff, Nat.reduceAdd, Nat.reduceSub, Nat.reduceMul, Nat.reduceBEq, Nat.reduceLeDiff, Nat.reduceLT, Int.reduceToNat, rho, frz1, ↓reduceIte]) (by simp -dsimp (decide := true) (disch := first | omega | simp (decide := true) only [hppb0]) only [hppb25, ↓brun_b, envOf, reduceIte, Nat.reduceEqDiff, Nat.reduceAdd, Nat.reduceSub, Nat.reduceMul, Nat.reduceBEq, Nat.reduceLeDiff, Nat.reduceLT, Int.reduceToNat]) ?_
      simp -dsimp (decide := true) (disch := first | omega | simp (decide := true) only [hppb0]) only [hppb28, ↓brun_b, envOf, reduceIte, Nat.reduceEqDiff, Nat.reduceAdd, Nat.reduceSub, Nat.reduceMul, Nat.reduceBEq, Nat.reduceLeDiff, Nat.reduceLT, Int.reduceToNat, rho, hG, sapp1_sl el151, Nat.le_refl]
      (repeat' refine And.intro ?_ ?_)
      all_goals
        refine hf _ (Sem.go (k := 1000) ?_)
        simp (decide := true) only [back_mk, backL_in, backL_row, backL_none, backL_nil, Nat.zero_add, Nat.reduceAdd]
        simp -dsimp (decide := true) (disch := first | omega | simp (decide := true) only [hppb0]) only [hppb23, ↓brun_b, envOf, reduceIte, Nat.reduceEqDiff, Nat.reduceAdd, Nat.reduceSub, Nat.reduceMul, Nat.reduceBEq, Nat.reduceLeDiff, Nat.reduceLT, Int.reduceToNat, rho]
        refine SQ.runL (rs := [.cell 6 162]) [0, 1, 2, 10] _ _ rfl (And.intro rfl rfl) (by decide) rfl rfl ?_ ?_
        · simp -dsimp (decide := true) (disch := first | omega | simp (decide := true) only [hppb0]) only [hppb29, ↓brun_b, envOf, reduceIte, Nat.reduceEqDiff, Nat.reduceAdd, Nat.reduceSub, Nat.reduceMul, Nat.reduceBEq, Nat.reduceLeDiff, Nat.reduceLT, Int.reduceToNat, rho, frz1, ↓reduceIte]
          intro e he
          obtain rfl : e = 0 := by omega
          first | exact appF_el _ 0 he (fk_flat _ _ _ _ _) | exact one124 _ 0 he (fk_flat _ _ _ _ _)
        · simp -dsimp (decide := true) (disch := first | omega | simp (decide := true) only [hppb0]) only [hppb29, ↓brun_b, envOf, reduceIte, Nat.reduceEqDiff, Nat.reduceAdd, Nat.reduceSub, Nat.reduceMul, Nat.reduceBEq, Nat.reduceLeDiff, Nat.reduceLT, Int.reduceToNat, rho, frz1, ↓reduceIte]
end Go.Proofs
