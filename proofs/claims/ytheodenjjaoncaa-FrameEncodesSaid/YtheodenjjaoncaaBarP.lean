/- Contracts of functions that the laws reach, on abstract values, and what they need: no conditions but those that each theorem states. -/
import Derived.Test.YtheodenjjaoncaaFixP
import Derived.Test.YtheodenjjaoncaaHelS2
set_option linter.unusedVariables false
set_option linter.unusedSimpArgs false
set_option linter.defProp false
namespace Go.Proofs
open Go Go.SL
set_option maxRecDepth 100000
def forms (k : Int) : List UInt8 :=
  if k = 1 then [102, 116, 97] else if k = 2 then [102, 116, 110, 120] else if k = 3 then [102, 116, 110] else if k = 4 then [112, 97, 98, 114] else if k = 5 then [112] else if k = 6 then [112, 100] else if k = 7 then [112, 100, 115] else if k = 8 then [97, 98, 108, 112, 100, 114]
  else if k = 9 then [97, 110] else if k = 10 then [97, 98, 110, 111, 119, 105, 121] else if k = 11 then [112, 100, 105] else if k = 12 then [112, 100, 107] else [63]
def fstr (l : List UInt8) : SV := .v (.string ⟨l.toArray⟩)
def barpc0 :=
  (aI (aI @FC.c_length @I16.c_length) (aI @IC.c_length (aI @idrs_len @lrows_length)))
def barpb0 :=
  (aI (aI (aI barpc0 (aI @FC.flat_eq @FC.one_eq)) (aI (aI @I16.one @IC.one) (aI @bdset_a @bsl_flat))) (aI (aI (aI @idrs_flat @lrows_flat) (aI @p144_one @zD.eq_1)) (aI (aI @zE.eq_1 @zF.eq_1) (aI @zH.eq_1 @zK.eq_1))))
def barpc1 :=
  (aI (aI (aI (aI (aI @FC.at_fi @FC.at_fn) (aI @FC.at_is @FC.at_kind)) (aI (aI @FC.at_n @FC.at_op) (aI @FC.at_pn (aI @FC.at_ti @FC.at_tn)))) (aI (aI (aI @FC.at_toA @FC.at_tr) (aI @FC.at_ttl (aI @FC.at_tx @FC.at_val))) (aI (aI @FC.at_vn @FC.part) (aI @FC.part_P (aI @FC.part_a @FC.part_b))))) (aI (aI (aI (aI @FC.part_from @FC.part_it) (aI @FC.part_key @FC.part_to)) (aI (aI @FC.part_ver @FC.set_all) (aI @Int.cast_ofNat_Int (aI @List.replicate_succ.{0} @List.replicate_zero.{0})))) (aI (aI (aI @SKren_row @after_mk) (aI @al151 (aI @brows_length @build151z))) (aI (aI @cellAt_succ @cellAt_zero) (aI @renL_cons (aI @renL_nil @ren_tup))))))
def barpc2 :=
  (aI (aI (aI (aI @FC.set_P @FC.set_a) (aI @FC.set_b @FC.set_from)) (aI (aI @FC.set_is @FC.set_it) (aI @FC.set_key @FC.set_n))) (aI (aI (aI @FC.set_op @FC.set_to) (aI @FC.set_toA @FC.set_tr)) (aI (aI @FC.set_ttl @FC.set_tx) (aI @FC.set_val @FC.set_ver))))
def barpc3 :=
  (aI (aI @beq_self_eq_true.{0} (aI @brun_a @cond_false.{1})) (aI @cond_true.{1} (aI @tab.a3 @tab.s3)))
def barpb1 :=
  (aI (aI barpc1 barpc0) (aI barpc2 (aI barpc3 @FC.set_kind)))
def barpb2 :=
  (aI (aI (aI barpc1 barpc0) (aI barpc2 (aI barpc3 @FC.set_kind))) (aI (aI @bwk_a @eq_self.{1}) (aI @forall_const.{1} (aI @implies_true.{0} @implies_true.{1}))))
set_option maxHeartbeats 4000000 in
theorem form_calls (k : Int) : Pure Try.prog 151 [.v (.int .i64 k)] (fstr (forms k)) := by
  unfold fstr
  by_cases h1 : k = 1
  · subst h1
    rw [show forms 1 = [102, 116, 97] from rfl]
    refine SCall.mk (fn := Try.f151) (by kernel_rfl) rfl (Nat.le_of_ble_eq_true (by kernel_rfl)) ?_
    refine Sem.go (k := 1000) ?_
    simp -dsimp (decide := true) (disch := first | omega | simp (decide := true) only [barpb0]) only [barpb1, ↓brun_b, envOf, Nat.reduceBEq]
    refine SQ.answer (rs := [.tmp 2]) rfl rfl ?_
    simp -dsimp (decide := true) (disch := first | omega | simp (decide := true) only [barpb0]) only [barpb2, ↓brun_b, rho]
  by_cases h2 : k = 2
  · subst h2
    rw [show forms 2 = [102, 116, 110, 120] from rfl]
    refine SCall.mk (fn := Try.f151) (by kernel_rfl) rfl (Nat.le_of_ble_eq_true (by kernel_rfl)) ?_
    refine Sem.go (k := 1000) ?_
    simp -dsimp (decide := true) (disch := first | omega | simp (decide := true) only [barpb0]) only [barpb1, ↓brun_b, envOf, Nat.reduceBEq]
    refine SQ.answer (rs := [.tmp 2]) rfl rfl ?_
    simp -dsimp (decide := true) (disch := first | omega | simp (decide := true) only [barpb0]) only [barpb2, ↓brun_b, rho]
  by_cases h3 : k = 3
  · subst h3
    rw [show forms 3 = [102, 116, 110] from rfl]
    refine SCall.mk (fn := Try.f151) (by kernel_rfl) rfl (Nat.le_of_ble_eq_true (by kernel_rfl)) ?_
    refine Sem.go (k := 1000) ?_
    simp -dsimp (decide := true) (disch := first | omega | simp (decide := true) only [barpb0]) only [barpb1, ↓brun_b, envOf, Nat.reduceBEq]
    refine SQ.answer (rs := [.tmp 2]) rfl rfl ?_
    simp -dsimp (decide := true) (disch := first | omega | simp (decide := true) only [barpb0]) only [barpb2, ↓brun_b, rho]
  by_cases h4 : k = 4
  · subst h4
    rw [show forms 4 = [112, 97, 98, 114] from rfl]
    refine SCall.mk (fn := Try.f151) (by kernel_rfl) rfl (Nat.le_of_ble_eq_true (by kernel_rfl)) ?_
    refine Sem.go (k := 1000) ?_
    simp -dsimp (decide := true) (disch := first | omega | simp (decide := true) only [barpb0]) only [barpb1, ↓brun_b, envOf, Nat.reduceBEq]
    refine SQ.answer (rs := [.tmp 2]) rfl rfl ?_
    simp -dsimp (decide := true) (disch := first | omega | simp (decide := true) only [barpb0]) only [barpb2, ↓brun_b, rho]
  by_cases h5 : k = 5
  · subst h5
    rw [show forms 5 = [112] from rfl]
    refine SCall.mk (fn := Try.f151) (by kernel_rfl) rfl (Nat.le_of_ble_eq_true (by kernel_rfl)) ?_
    refine Sem.go (k := 1000) ?_
    simp -dsimp (decide := true) (disch := first | omega | simp (decide := true) only [barpb0]) only [barpb1, ↓brun_b, envOf, Nat.reduceBEq]
    refine SQ.answer (rs := [.tmp 2]) rfl rfl ?_
    simp -dsimp (decide := true) (disch := first | omega | simp (decide := true) only [barpb0]) only [barpb2, ↓brun_b, rho]
  by_cases h6 : k = 6
  · subst h6
    rw [show forms 6 = [112, 100] from rfl]
    refine SCall.mk (fn := Try.f151) (by kernel_rfl) rfl (Nat.le_of_ble_eq_true (by kernel_rfl)) ?_
    refine Sem.go (k := 1000) ?_
    simp -dsimp (decide := true) (disch := first | omega | simp (decide := true) only [barpb0]) only [barpb1, ↓brun_b, envOf, Nat.reduceBEq]
    refine SQ.answer (rs := [.tmp 2]) rfl rfl ?_
    simp -dsimp (decide := true) (disch := first | omega | simp (decide := true) only [barpb0]) only [barpb2, ↓brun_b, rho]
  by_cases h7 : k = 7
  · subst h7
    rw [show forms 7 = [112, 100, 115] from rfl]
    refine SCall.mk (fn := Try.f151) (by kernel_rfl) rfl (Nat.le_of_ble_eq_true (by kernel_rfl)) ?_
    refine Sem.go (k := 1000) ?_
    simp -dsimp (decide := true) (disch := first | omega | simp (decide := true) only [barpb0]) only [barpb1, ↓brun_b, envOf, Nat.reduceBEq]
    refine SQ.answer (rs := [.tmp 2]) rfl rfl ?_
    simp -dsimp (decide := true) (disch := first | omega | simp (decide := true) only [barpb0]) only [barpb2, ↓brun_b, rho]
  by_cases h8 : k = 8
  · subst h8
    rw [show forms 8 = [97, 98, 108, 112, 100, 114] from rfl]
    refine SCall.mk (fn := Try.f151) (by kernel_rfl) rfl (Nat.le_of_ble_eq_true (by kernel_rfl)) ?_
    refine Sem.go (k := 1000) ?_
    simp -dsimp (decide := true) (disch := first | omega | simp (decide := true) only [barpb0]) only [barpb1, ↓brun_b, envOf, Nat.reduceBEq]
    refine SQ.answer (rs := [.tmp 2]) rfl rfl ?_
    simp -dsimp (decide := true) (disch := first | omega | simp (decide := true) only [barpb0]) only [barpb2, ↓brun_b, rho]
  by_cases h9 : k = 9
  · subst h9
    rw [show forms 9 = [97, 110] from rfl]
    refine SCall.mk (fn := Try.f151) (by kernel_rfl) rfl (Nat.le_of_ble_eq_true (by kernel_rfl)) ?_
    refine Sem.go (k := 1000) ?_
    simp -dsimp (decide := true) (disch := first | omega | simp (decide := true) only [barpb0]) only [barpb1, ↓brun_b, envOf, Nat.reduceBEq]
    refine SQ.answer (rs := [.tmp 2]) rfl rfl ?_
    simp -dsimp (decide := true) (disch := first | omega | simp (decide := true) only [barpb0]) only [barpb2, ↓brun_b, rho]
  by_cases h10 : k = 10
  · subst h10
    rw [show forms 10 = [97, 98, 110, 111, 119, 105, 121] from rfl]
    refine SCall.mk (fn := Try.f151) (by kernel_rfl) rfl (Nat.le_of_ble_eq_true (by kernel_rfl)) ?_
    refine Sem.go (k := 1000) ?_
    simp -dsimp (decide := true) (disch := first | omega | simp (decide := true) only [barpb0]) only [barpb1, ↓brun_b, envOf, Nat.reduceBEq]
    refine SQ.answer (rs := [.tmp 2]) rfl rfl ?_
    simp -dsimp (decide := true) (disch := first | omega | simp (decide := true) only [barpb0]) only [barpb2, ↓brun_b, rho]
  by_cases h11 : k = 11
  · subst h11
    rw [show forms 11 = [112, 100, 105] from rfl]
    refine SCall.mk (fn := Try.f151) (by kernel_rfl) rfl (Nat.le_of_ble_eq_true (by kernel_rfl)) ?_
    refine Sem.go (k := 1000) ?_
    simp -dsimp (decide := true) (disch := first | omega | simp (decide := true) only [barpb0]) only [barpb1, ↓brun_b, envOf, Nat.reduceBEq]
    refine SQ.answer (rs := [.tmp 2]) rfl rfl ?_
    simp -dsimp (decide := true) (disch := first | omega | simp (decide := true) only [barpb0]) only [barpb2, ↓brun_b, rho]
  by_cases h12 : k = 12
  · subst h12
    rw [show forms 12 = [112, 100, 107] from rfl]
    refine SCall.mk (fn := Try.f151) (by kernel_rfl) rfl (Nat.le_of_ble_eq_true (by kernel_rfl)) ?_
    refine Sem.go (k := 1000) ?_
    simp -dsimp (decide := true) (disch := first | omega | simp (decide := true) only [barpb0]) only [barpb1, ↓brun_b, envOf, Nat.reduceBEq]
    refine SQ.answer (rs := [.tmp 2]) rfl rfl ?_
    simp -dsimp (decide := true) (disch := first | omega | simp (decide := true) only [barpb0]) only [barpb2, ↓brun_b, rho]
  have d : ∀ m : Int, k ≠ m → decide (k = m) = false := fun m h => decide_eq_false h
  have e : forms k = [63] := by unfold forms; simp only [h1, h2, h3, h4, h5, h6, h7, h8, h9, h10, h11, h12, if_false]
  rw [e]
  refine SCall.mk (fn := Try.f151) (by kernel_rfl) rfl (Nat.le_of_ble_eq_true (by kernel_rfl)) ?_
  refine Sem.go (k := 1000) ?_
  simp -dsimp (decide := true) (disch := first | omega | simp (decide := true) only [barpb0]) only [barpb1, ↓brun_b, envOf, Nat.reduceBEq, d 1 h1, d 2 h2, d 3 h3, d 4 h4, d 5 h5, d 6 h6, d 7 h7, d 8 h8, d 9 h9, d 10 h10, d 11 h11, d 12 h12]
  refine SQ.answer (rs := [.tmp 2]) rfl rfl ?_
  simp -dsimp (decide := true) (disch := first | omega | simp (decide := true) only [barpb0]) only [barpb2, ↓brun_b, rho]
def setF (c : UInt8) (F G : Frm) : Frm :=
  if c = 102 then { G with fi := F.fi, fn := F.fn } else if c = 116 then { G with ti := F.ti, tn := F.tn } else if c = 110 then { G with n := F.n } else if c = 112 then { G with who := F.who, pn := F.pn } else if c = 97 then { G with a := F.a } else if c = 98 then { G with b := F.b } else if c = 100 then { G with toA := F.toA } else if c = 114 then { G with tr := F.tr } else if c = 115 then { G with is := F.is } else if c = 105 then { G with key := F.key, vn := F.vn, vwho := F.vwho, val := F.val } else if c = 107 then { G with key := F.key, vn := F.vn, vwho := F.vwho } else if c = 108 then { G with op := F.op } else if c = 111 then { G with op := F.op } else if c = 119 then { G with ttl := F.ttl } else if c = 120 then { G with tx := F.tx } else if c = 121 then { G with tx := F.tx } else G
def isLet (c : UInt8) : Bool := [102, 116, 110, 112, 97, 98, 100, 114, 115, 105, 107, 108, 111, 119, 120, 121].contains c
def bareG (F : Frm) (l : List UInt8) : Frm := l.foldl (fun G c => setF c F G) (kF F.kind)
theorem bareG_take (F : Frm) (l : List UInt8) (i : Nat) (h : i < l.length) : bareG F (l.take (i + 1)) = setF (l.getD i 0) F (bareG F (l.take i)) := by
  unfold bareG
  rw [List.take_add_one, List.foldl_append, List.getD_eq_getElem?_getD, List.getElem?_eq_getElem h]
  rfl
def barpb3 :=
  (aI (aI (aI @FC.set_kind @bl151) (aI @cells_int @fieldPlaceOf_eq)) (aI (aI @sagg_some @sfill1_some) (aI @sfill_cons (aI @sfill_nil @tab.f151x0))))
theorem b151y (n : Int) : sBuild Try.prog 151 [(0, .v (.int .i64 n))] = some ⟨.agg (FC.c { zF with kind := .v (.int .i64 n) }), {}, True⟩ := by
  simp (disch := simp [FC.c_length, I16.c_length, IC.c_length]) only [barpb3, Option.map_some]
theorem kFn_ent' {fz : Nat → Option SB} {ρ : Nat → Nat} (n : Int) : EntL fz ρ (kF n).fc.c (FC.c { zF with kind := .v (.int .i64 n) }) = True := eq_true (by
  unfold kF zFrm Frm.fc zF
  rw [FC.ent]
  (repeat' apply And.intro) <;> first | exact Ent.self (flat_v _) | exact ent_nil _)
theorem strAt_form (l : List UInt8) (i : Nat) : strAt ⟨l.toArray⟩ i = ((l.getD i 0).toNat : Int) := by
  simp [strAt, List.getD_eq_getElem?_getD]
def barpc4 :=
  (aI (aI (aI (aI (aI @tab.a135 @tab.a144) (aI @tab.a145 (aI @tab.a147 @tab.a149))) (aI (aI @tab.a151 (aI @tab.a2 @tab.a23)) (aI @tab.a35 (aI @tab.a4 @tab.a79)))) (aI (aI (aI @tab.f135x0 (aI @tab.f135x1 @tab.f144x1)) (aI @tab.f147x0 (aI @tab.f149x0 @tab.f149x1))) (aI (aI @tab.f149x2 (aI @tab.f151x1 @tab.f151x10)) (aI @tab.f151x11 (aI @tab.f151x12 @tab.f151x13))))) (aI (aI (aI (aI @tab.f151x2 @tab.f151x3) (aI @tab.f151x4 (aI @tab.f151x5 @tab.f151x6))) (aI (aI @tab.f151x7 (aI @tab.f151x8 @tab.f151x9)) (aI @tab.s135 (aI @tab.s144 @tab.s145)))) (aI (aI (aI @tab.s147 (aI @tab.s149 @tab.s151)) (aI @tab.s2 (aI @tab.s23 @tab.s35))) (aI (aI @tab.s4 (aI @tab.s79 @tab.u145)) (aI @tab.u35 (aI @tab.u79 @tab.u9))))))
def barpb4 :=
  (aI (aI barpc1 (aI barpc0 barpc2)) (aI (aI barpc3 barpc4) (aI @FC.set_kind @tab.f151x0)))
def barpb5 :=
  (aI barpc3 (aI barpc4 @tab.f151x0))
def barpb6 :=
  (aI (aI (aI barpc1 barpc0) (aI barpc2 barpc3)) (aI (aI barpc4 @FC.set_kind) (aI @b151y @tab.f151x0)))
def barpb7 :=
  (aI (aI (aI barpc1 (aI barpc0 barpc2)) (aI barpc3 (aI barpc4 @FC.set_kind))) (aI (aI @bwk_a (aI @eq_self.{1} @forall_const.{1})) (aI @implies_true.{0} (aI @implies_true.{1} @tab.f151x0))))
def barpb8 :=
  (aI (aI (aI barpc1 barpc0) (aI barpc2 barpc3)) (aI (aI barpc4 @FC.set_kind) (aI @bs145_0 @tab.f151x0)))
def barpb9 :=
  (aI (aI (aI barpc1 barpc0) (aI barpc2 barpc3)) (aI (aI barpc4 @FC.set_kind) (aI @bs79_0 @tab.f151x0)))
def barpb10 :=
  (aI (aI (aI barpc1 barpc0) (aI barpc2 barpc3)) (aI (aI barpc4 @FC.set_kind) (aI @bs35_0 @tab.f151x0)))
def barpb11 :=
  (aI (aI (aI @List.length_cons.{0} @List.length_nil.{0}) (aI @Nat.zero_add @roL_in)) (aI (aI @roL_nil @roL_none) (aI @roL_row @ro_mk)))
set_option maxHeartbeats 16000000 in
theorem bare_loop (F : Frm) (hw : F.wf) (l : List UInt8) (hl : l.length < 100) (hs : ∀ c ∈ l, isLet c = true) (hk : forms F.kind = l) (hq : decide ((⟨l.toArray⟩ : ByteArray) = ⟨#[63]⟩) = false) :
    Pure Try.prog 120 [.agg F.fc.c] (.tup [.agg (bareG F l).fc.c, .v (.bool true)]) := by
  have hf := form_calls F.kind
  rw [hk] at hf
  unfold fstr at hf
  have h8 : F.tr.length * 8 ≤ 140737488355328 := by have := hw.ltr; unfold reachBytes at this; omega
  have h9 : F.is.length * 16 ≤ 140737488355328 := by have := hw.lis; unfold reachBytes at this; omega
  have h10 : F.tx.length ≤ 140737488355328 := by have := hw.ltx; unfold reachBytes at this; omega
  have h11 : F.val.length ≤ 140737488355328 := by have := hw.lval; unfold reachBytes at this; omega
  refine SCall.mk (fn := Try.f120) (by kernel_rfl) rfl (Nat.le_of_ble_eq_true (by kernel_rfl)) ?_
  refine Sem.go (k := 1000) ?_
  simp -dsimp (decide := true) (disch := first | omega | simp (decide := true) only [barpb0]) only [barpb4, ↓brun_b, envOf, Nat.reduceAdd, Nat.reduceBEq, Frm.fc]
  refine SemOps.callq (k := 1000) cal.f151 (hf) rfl rfl rfl rfl (by simp only [bflat_a]) (by simp only [bflat_a]) (by simp -dsimp (decide := true) (disch := first | omega | simp (decide := true) only [barpb0]) only [barpb5]) ?_
  simp -dsimp (decide := true) (disch := first | omega | simp (decide := true) only [barpb0]) only [barpb6, ↓brun_b, Nat.reduceAdd, Nat.reduceBEq, hq]
  refine Sem.loop (ι := {i : Nat // i ≤ l.length}) (fun i => ⟨118, 0, [(1, .ptr 0 0 0), (2, .ptr 1 0 0), (4, .v (.string ⟨l.toArray⟩)), (5, .ptr 2 0 0), (6, .v (.int .i64 (i.1 : Int)))], [some (.row ⟨95, 1, true, 151, fun _ => F.fc.c⟩), some (.row ⟨95, 1, true, 151, fun _ => zF.c⟩), some (.row ⟨95, 1, true, 151, fun _ => (bareG F (l.take i.1)).fc.c⟩)]⟩) (fun i => l.length - i.1) ⟨0, Nat.zero_le _⟩ [0, 1, 2] ?_ ?_
  · have h0 : bareG F (l.take 0) = kF F.kind := rfl
    (refine Wk.ofC ?_; simp -dsimp (decide := true) (disch := first | omega | simp (decide := true) only [barpb0]) only [barpb7, ↓brun_b, Nat.reduceAdd, Nat.reduceBEq, h0, Frm.fc])
    exact fun e he => of_eq_true (kFn_ent' F.kind)
  · rintro ⟨i, hi⟩
    refine Sem.go (k := 1000) ?_
    have bsz : (⟨l.toArray⟩ : ByteArray).size = l.length := rfl
    simp -dsimp (decide := true) (disch := first | omega | simp (decide := true) only [barpb0]) only [barpb4, ↓brun_b, Nat.reduceAdd, Nat.reduceBEq, Frm.fc, bsz]
    refine SCond.split (fun h1 => ?_) (fun h1 => ?_)
    · simp only [decide_eq_true_eq] at h1
      have hi' : i < l.length := by omega
      have hwk : IntKind.i64.wrap ((i : Int) + 1) = ((i + 1 : Nat) : Int) := by rw [wrap_i64 _ (by omega)]; rfl
      have hmem : l.getD i 0 ∈ l := by rw [List.getD_eq_getElem?_getD, List.getElem?_eq_getElem hi', Option.getD_some]; exact List.getElem_mem hi'
      have hc := hs _ hmem
      have hGb := bareG_take F l i hi'
      have hch := strAt_form l i
      generalize bareG F (l.take i) = X at *
      generalize l.getD i 0 = c at *
      have hcs : c = 102 ∨ c = 116 ∨ c = 110 ∨ c = 112 ∨ c = 97 ∨ c = 98 ∨ c = 100 ∨ c = 114 ∨ c = 115 ∨ c = 105 ∨ c = 107 ∨ c = 108 ∨ c = 111 ∨ c = 119 ∨ c = 120 ∨ c = 121 := by
        unfold isLet at hc
        simpa using hc
      rcases hcs with rfl | rfl | rfl | rfl | rfl | rfl | rfl | rfl | rfl | rfl | rfl | rfl | rfl | rfl | rfl | rfl
      · replace hch : strAt ⟨l.toArray⟩ i = 102 := hch
        have hS : bareG F (l.take (i + 1)) = { X with fi := F.fi, fn := F.fn } := hGb.trans rfl
        simp -dsimp (decide := true) (disch := first | omega | simp (decide := true) only [barpb0]) only [barpb4, ↓brun_b, Nat.reduceAdd, Nat.reduceBEq, hch, hwk, bsz]
        repeat (refine And.intro (by omega) ?_)
        refine ⟨⟨i + 1, by omega⟩, [0, 1, 2], ?_, by show l.length - (i + 1) < l.length - i; omega⟩
        (refine Wk.ofC ?_; simp -dsimp (decide := true) (disch := first | omega | simp (decide := true) only [barpb0]) only [barpb7, ↓brun_b, Nat.reduceAdd, Nat.reduceBEq, hS])
        all_goals (intro e he; rw [FC.ent]; (repeat' apply And.intro) <;> first | exact Ent.self (flat_v _) | exact Ent.self (bsl_flat _) | exact Ent.self (lsl_flat _) | exact Ent.self (isl_flat _) | exact Ent_row rfl rfl (lrows_length _).symm (by omega) fun i r hr => app_row _ (lrows_flat _) i r hr | exact Ent_row rfl rfl (idrs_len _).symm (by omega) fun i r hr => app_row _ (idrs_flat _) i r hr | exact Ent_row rfl rfl (brows_length _).symm (by omega) fun i r hr => app_row _ (flatR_brows _) i r hr)
      · replace hch : strAt ⟨l.toArray⟩ i = 116 := hch
        have hS : bareG F (l.take (i + 1)) = { X with ti := F.ti, tn := F.tn } := hGb.trans rfl
        simp -dsimp (decide := true) (disch := first | omega | simp (decide := true) only [barpb0]) only [barpb4, ↓brun_b, Nat.reduceAdd, Nat.reduceBEq, hch, hwk, bsz]
        repeat (refine And.intro (by omega) ?_)
        refine ⟨⟨i + 1, by omega⟩, [0, 1, 2], ?_, by show l.length - (i + 1) < l.length - i; omega⟩
        (refine Wk.ofC ?_; simp -dsimp (decide := true) (disch := first | omega | simp (decide := true) only [barpb0]) only [barpb7, ↓brun_b, Nat.reduceAdd, Nat.reduceBEq, hS])
        all_goals (intro e he; rw [FC.ent]; (repeat' apply And.intro) <;> first | exact Ent.self (flat_v _) | exact Ent.self (bsl_flat _) | exact Ent.self (lsl_flat _) | exact Ent.self (isl_flat _) | exact Ent_row rfl rfl (lrows_length _).symm (by omega) fun i r hr => app_row _ (lrows_flat _) i r hr | exact Ent_row rfl rfl (idrs_len _).symm (by omega) fun i r hr => app_row _ (idrs_flat _) i r hr | exact Ent_row rfl rfl (brows_length _).symm (by omega) fun i r hr => app_row _ (flatR_brows _) i r hr)
      · replace hch : strAt ⟨l.toArray⟩ i = 110 := hch
        have hS : bareG F (l.take (i + 1)) = { X with n := F.n } := hGb.trans rfl
        simp -dsimp (decide := true) (disch := first | omega | simp (decide := true) only [barpb0]) only [barpb4, ↓brun_b, Nat.reduceAdd, Nat.reduceBEq, hch, hwk, bsz]
        repeat (refine And.intro (by omega) ?_)
        refine ⟨⟨i + 1, by omega⟩, [0, 1, 2], ?_, by show l.length - (i + 1) < l.length - i; omega⟩
        (refine Wk.ofC ?_; simp -dsimp (decide := true) (disch := first | omega | simp (decide := true) only [barpb0]) only [barpb7, ↓brun_b, Nat.reduceAdd, Nat.reduceBEq, hS])
        all_goals (intro e he; rw [FC.ent]; (repeat' apply And.intro) <;> first | exact Ent.self (flat_v _) | exact Ent.self (bsl_flat _) | exact Ent.self (lsl_flat _) | exact Ent.self (isl_flat _) | exact Ent_row rfl rfl (lrows_length _).symm (by omega) fun i r hr => app_row _ (lrows_flat _) i r hr | exact Ent_row rfl rfl (idrs_len _).symm (by omega) fun i r hr => app_row _ (idrs_flat _) i r hr | exact Ent_row rfl rfl (brows_length _).symm (by omega) fun i r hr => app_row _ (flatR_brows _) i r hr)
      · replace hch : strAt ⟨l.toArray⟩ i = 112 := hch
        have hS : bareG F (l.take (i + 1)) = { X with who := F.who, pn := F.pn } := hGb.trans rfl
        simp -dsimp (decide := true) (disch := first | omega | simp (decide := true) only [barpb0]) only [barpb4, ↓brun_b, Nat.reduceAdd, Nat.reduceBEq, hch, hwk, bsz]
        repeat (refine And.intro (by omega) ?_)
        refine ⟨⟨i + 1, by omega⟩, [0, 1, 2], ?_, by show l.length - (i + 1) < l.length - i; omega⟩
        (refine Wk.ofC ?_; simp -dsimp (decide := true) (disch := first | omega | simp (decide := true) only [barpb0]) only [barpb7, ↓brun_b, Nat.reduceAdd, Nat.reduceBEq, hS])
        all_goals (intro e he; rw [FC.ent]; (repeat' apply And.intro) <;> first | exact Ent.self (flat_v _) | exact Ent.self (bsl_flat _) | exact Ent.self (lsl_flat _) | exact Ent.self (isl_flat _) | exact Ent_row rfl rfl (lrows_length _).symm (by omega) fun i r hr => app_row _ (lrows_flat _) i r hr | exact Ent_row rfl rfl (idrs_len _).symm (by omega) fun i r hr => app_row _ (idrs_flat _) i r hr | exact Ent_row rfl rfl (brows_length _).symm (by omega) fun i r hr => app_row _ (flatR_brows _) i r hr)
      · replace hch : strAt ⟨l.toArray⟩ i = 97 := hch
        have hS : bareG F (l.take (i + 1)) = { X with a := F.a } := hGb.trans rfl
        simp -dsimp (decide := true) (disch := first | omega | simp (decide := true) only [barpb0]) only [barpb4, ↓brun_b, Nat.reduceAdd, Nat.reduceBEq, hch, hwk, bsz]
        repeat (refine And.intro (by omega) ?_)
        refine ⟨⟨i + 1, by omega⟩, [0, 1, 2], ?_, by show l.length - (i + 1) < l.length - i; omega⟩
        (refine Wk.ofC ?_; simp -dsimp (decide := true) (disch := first | omega | simp (decide := true) only [barpb0]) only [barpb7, ↓brun_b, Nat.reduceAdd, Nat.reduceBEq, hS])
        all_goals (intro e he; rw [FC.ent]; (repeat' apply And.intro) <;> first | exact Ent.self (flat_v _) | exact Ent.self (bsl_flat _) | exact Ent.self (lsl_flat _) | exact Ent.self (isl_flat _) | exact Ent_row rfl rfl (lrows_length _).symm (by omega) fun i r hr => app_row _ (lrows_flat _) i r hr | exact Ent_row rfl rfl (idrs_len _).symm (by omega) fun i r hr => app_row _ (idrs_flat _) i r hr | exact Ent_row rfl rfl (brows_length _).symm (by omega) fun i r hr => app_row _ (flatR_brows _) i r hr)
      · replace hch : strAt ⟨l.toArray⟩ i = 98 := hch
        have hS : bareG F (l.take (i + 1)) = { X with b := F.b } := hGb.trans rfl
        simp -dsimp (decide := true) (disch := first | omega | simp (decide := true) only [barpb0]) only [barpb4, ↓brun_b, Nat.reduceAdd, Nat.reduceBEq, hch, hwk, bsz]
        repeat (refine And.intro (by omega) ?_)
        refine ⟨⟨i + 1, by omega⟩, [0, 1, 2], ?_, by show l.length - (i + 1) < l.length - i; omega⟩
        (refine Wk.ofC ?_; simp -dsimp (decide := true) (disch := first | omega | simp (decide := true) only [barpb0]) only [barpb7, ↓brun_b, Nat.reduceAdd, Nat.reduceBEq, hS])
        all_goals (intro e he; rw [FC.ent]; (repeat' apply And.intro) <;> first | exact Ent.self (flat_v _) | exact Ent.self (bsl_flat _) | exact Ent.self (lsl_flat _) | exact Ent.self (isl_flat _) | exact Ent_row rfl rfl (lrows_length _).symm (by omega) fun i r hr => app_row _ (lrows_flat _) i r hr | exact Ent_row rfl rfl (idrs_len _).symm (by omega) fun i r hr => app_row _ (idrs_flat _) i r hr | exact Ent_row rfl rfl (brows_length _).symm (by omega) fun i r hr => app_row _ (flatR_brows _) i r hr)
      · replace hch : strAt ⟨l.toArray⟩ i = 100 := hch
        have hS : bareG F (l.take (i + 1)) = { X with toA := F.toA } := hGb.trans rfl
        simp -dsimp (decide := true) (disch := first | omega | simp (decide := true) only [barpb0]) only [barpb4, ↓brun_b, Nat.reduceAdd, Nat.reduceBEq, hch, hwk, bsz]
        repeat (refine And.intro (by omega) ?_)
        refine ⟨⟨i + 1, by omega⟩, [0, 1, 2], ?_, by show l.length - (i + 1) < l.length - i; omega⟩
        (refine Wk.ofC ?_; simp -dsimp (decide := true) (disch := first | omega | simp (decide := true) only [barpb0]) only [barpb7, ↓brun_b, Nat.reduceAdd, Nat.reduceBEq, hS])
        all_goals (intro e he; rw [FC.ent]; (repeat' apply And.intro) <;> first | exact Ent.self (flat_v _) | exact Ent.self (bsl_flat _) | exact Ent.self (lsl_flat _) | exact Ent.self (isl_flat _) | exact Ent_row rfl rfl (lrows_length _).symm (by omega) fun i r hr => app_row _ (lrows_flat _) i r hr | exact Ent_row rfl rfl (idrs_len _).symm (by omega) fun i r hr => app_row _ (idrs_flat _) i r hr | exact Ent_row rfl rfl (brows_length _).symm (by omega) fun i r hr => app_row _ (flatR_brows _) i r hr)
      · replace hch : strAt ⟨l.toArray⟩ i = 114 := hch
        have hS : bareG F (l.take (i + 1)) = { X with tr := F.tr } := hGb.trans rfl
        simp -dsimp (decide := true) (disch := first | omega | simp (decide := true) only [barpb0]) only [barpb8, ↓brun_b, Nat.reduceAdd, Nat.reduceBEq, hch, hwk, bsz, sapp1_sl elN3, h8]
        repeat (refine And.intro (by omega) ?_)
        refine ⟨⟨i + 1, by omega⟩, [0, 1, 2], ?_, by show l.length - (i + 1) < l.length - i; omega⟩
        (refine Wk.ofC ?_; simp -dsimp (decide := true) (disch := first | omega | simp (decide := true) only [barpb0]) only [barpb7, ↓brun_b, reduceIte, Nat.reduceAdd, Nat.reduceBEq, hS, ↓reduceIte])
        all_goals (intro e he; rw [FC.ent]; (repeat' apply And.intro) <;> first | exact Ent.self (flat_v _) | exact Ent.self (bsl_flat _) | exact Ent.self (lsl_flat _) | exact Ent.self (isl_flat _) | exact Ent_row rfl rfl (lrows_length _).symm (by omega) fun i r hr => app_row _ (lrows_flat _) i r hr | exact Ent_row rfl rfl (idrs_len _).symm (by omega) fun i r hr => app_row _ (idrs_flat _) i r hr | exact Ent_row rfl rfl (brows_length _).symm (by omega) fun i r hr => app_row _ (flatR_brows _) i r hr)
      · replace hch : strAt ⟨l.toArray⟩ i = 115 := hch
        have hS : bareG F (l.take (i + 1)) = { X with is := F.is } := hGb.trans rfl
        simp -dsimp (decide := true) (disch := first | omega | simp (decide := true) only [barpb0]) only [barpb9, ↓brun_b, Nat.reduceAdd, Nat.reduceBEq, hch, hwk, bsz, sapp1_sl elN23, h9]
        repeat (refine And.intro (by omega) ?_)
        refine ⟨⟨i + 1, by omega⟩, [0, 1, 2], ?_, by show l.length - (i + 1) < l.length - i; omega⟩
        (refine Wk.ofC ?_; simp -dsimp (decide := true) (disch := first | omega | simp (decide := true) only [barpb0]) only [barpb7, ↓brun_b, reduceIte, Nat.reduceAdd, Nat.reduceBEq, hS, ↓reduceIte])
        all_goals (intro e he; rw [FC.ent]; (repeat' apply And.intro) <;> first | exact Ent.self (flat_v _) | exact Ent.self (bsl_flat _) | exact Ent.self (lsl_flat _) | exact Ent.self (isl_flat _) | exact Ent_row rfl rfl (lrows_length _).symm (by omega) fun i r hr => app_row _ (lrows_flat _) i r hr | exact Ent_row rfl rfl (idrs_len _).symm (by omega) fun i r hr => app_row _ (idrs_flat _) i r hr | exact Ent_row rfl rfl (brows_length _).symm (by omega) fun i r hr => app_row _ (flatR_brows _) i r hr)
      · replace hch : strAt ⟨l.toArray⟩ i = 105 := hch
        have hS : bareG F (l.take (i + 1)) = { X with key := F.key, vn := F.vn, vwho := F.vwho, val := F.val } := hGb.trans rfl
        simp -dsimp (decide := true) (disch := first | omega | simp (decide := true) only [barpb0]) only [barpb10, ↓brun_b, Nat.reduceAdd, Nat.reduceBEq, hch, hwk, bsz, sapp1_sl el5, h11]
        repeat (refine And.intro (by omega) ?_)
        refine ⟨⟨i + 1, by omega⟩, [0, 1, 2], ?_, by show l.length - (i + 1) < l.length - i; omega⟩
        (refine Wk.ofC ?_; simp -dsimp (decide := true) (disch := first | omega | simp (decide := true) only [barpb0]) only [barpb7, ↓brun_b, reduceIte, Nat.reduceAdd, Nat.reduceBEq, hS, ↓reduceIte])
        all_goals (intro e he; rw [FC.ent]; (repeat' apply And.intro) <;> first | exact Ent.self (flat_v _) | exact Ent.self (bsl_flat _) | exact Ent.self (lsl_flat _) | exact Ent.self (isl_flat _) | exact Ent_row rfl rfl (lrows_length _).symm (by omega) fun i r hr => app_row _ (lrows_flat _) i r hr | exact Ent_row rfl rfl (idrs_len _).symm (by omega) fun i r hr => app_row _ (idrs_flat _) i r hr | exact Ent_row rfl rfl (brows_length _).symm (by omega) fun i r hr => app_row _ (flatR_brows _) i r hr)
      · replace hch : strAt ⟨l.toArray⟩ i = 107 := hch
        have hS : bareG F (l.take (i + 1)) = { X with key := F.key, vn := F.vn, vwho := F.vwho } := hGb.trans rfl
        simp -dsimp (decide := true) (disch := first | omega | simp (decide := true) only [barpb0]) only [barpb4, ↓brun_b, Nat.reduceAdd, Nat.reduceBEq, hch, bsz]
        refine And.intro (by omega) ?_
        refine Sem.go (k := 1000) ?_
        simp -dsimp (decide := true) (disch := first | omega | simp (decide := true) only [barpb0]) only [barpb4]
        refine Sem.draw' (by kernel_rfl) (.one 0 (.one 1 (.one 2 (.one 3 (.one 4 (.one 5 (.one 6 (.one 7 (.alt 8 (.one 9 (.one 10 (.alt 11 .done .non))) .non))))))))) [2] (by kernel_rfl) (fun G ff hG hf => ?_)
        simp (decide := true) only [barpb11, Nat.reduceAdd] at hG ⊢
        simp -dsimp (decide := true) (disch := first | omega | simp (decide := true) only [barpb0]) only [barpb4, ↓brun_b, Nat.reduceAdd, Nat.reduceBEq, hG]
        refine hf _ (Sem.go (k := 1000) ?_)
        simp (decide := true) only [back_mk, backL_in, backL_row, backL_nil, Nat.zero_add, Nat.reduceAdd]
        simp -dsimp (decide := true) (disch := first | omega | simp (decide := true) only [barpb0]) only [barpb4, ↓brun_b, Nat.reduceAdd, Nat.reduceBEq, hwk]
        refine ⟨⟨i + 1, by omega⟩, [0, 1, 2], ?_, by show l.length - (i + 1) < l.length - i; omega⟩
        (refine Wk.ofC ?_; simp -dsimp (decide := true) (disch := first | omega | simp (decide := true) only [barpb0]) only [barpb7, ↓brun_b, Nat.reduceAdd, Nat.reduceBEq, hS])
        all_goals (intro e he; rw [FC.ent]; (repeat' apply And.intro) <;> first | exact Ent.self (flat_v _) | exact Ent.self (bsl_flat _) | exact Ent.self (lsl_flat _) | exact Ent.self (isl_flat _))
      · replace hch : strAt ⟨l.toArray⟩ i = 108 := hch
        have hS : bareG F (l.take (i + 1)) = { X with op := F.op } := hGb.trans rfl
        simp -dsimp (decide := true) (disch := first | omega | simp (decide := true) only [barpb0]) only [barpb4, ↓brun_b, Nat.reduceAdd, Nat.reduceBEq, hch, hwk, bsz]
        repeat (refine And.intro (by omega) ?_)
        refine ⟨⟨i + 1, by omega⟩, [0, 1, 2], ?_, by show l.length - (i + 1) < l.length - i; omega⟩
        (refine Wk.ofC ?_; simp -dsimp (decide := true) (disch := first | omega | simp (decide := true) only [barpb0]) only [barpb7, ↓brun_b, Nat.reduceAdd, Nat.reduceBEq, hS])
        all_goals (intro e he; rw [FC.ent]; (repeat' apply And.intro) <;> first | exact Ent.self (flat_v _) | exact Ent.self (bsl_flat _) | exact Ent.self (lsl_flat _) | exact Ent.self (isl_flat _) | exact Ent_row rfl rfl (lrows_length _).symm (by omega) fun i r hr => app_row _ (lrows_flat _) i r hr | exact Ent_row rfl rfl (idrs_len _).symm (by omega) fun i r hr => app_row _ (idrs_flat _) i r hr | exact Ent_row rfl rfl (brows_length _).symm (by omega) fun i r hr => app_row _ (flatR_brows _) i r hr)
      · replace hch : strAt ⟨l.toArray⟩ i = 111 := hch
        have hS : bareG F (l.take (i + 1)) = { X with op := F.op } := hGb.trans rfl
        simp -dsimp (decide := true) (disch := first | omega | simp (decide := true) only [barpb0]) only [barpb4, ↓brun_b, Nat.reduceAdd, Nat.reduceBEq, hch, hwk, bsz]
        repeat (refine And.intro (by omega) ?_)
        refine ⟨⟨i + 1, by omega⟩, [0, 1, 2], ?_, by show l.length - (i + 1) < l.length - i; omega⟩
        (refine Wk.ofC ?_; simp -dsimp (decide := true) (disch := first | omega | simp (decide := true) only [barpb0]) only [barpb7, ↓brun_b, Nat.reduceAdd, Nat.reduceBEq, hS])
        all_goals (intro e he; rw [FC.ent]; (repeat' apply And.intro) <;> first | exact Ent.self (flat_v _) | exact Ent.self (bsl_flat _) | exact Ent.self (lsl_flat _) | exact Ent.self (isl_flat _) | exact Ent_row rfl rfl (lrows_length _).symm (by omega) fun i r hr => app_row _ (lrows_flat _) i r hr | exact Ent_row rfl rfl (idrs_len _).symm (by omega) fun i r hr => app_row _ (idrs_flat _) i r hr | exact Ent_row rfl rfl (brows_length _).symm (by omega) fun i r hr => app_row _ (flatR_brows _) i r hr)
      · replace hch : strAt ⟨l.toArray⟩ i = 119 := hch
        have hS : bareG F (l.take (i + 1)) = { X with ttl := F.ttl } := hGb.trans rfl
        simp -dsimp (decide := true) (disch := first | omega | simp (decide := true) only [barpb0]) only [barpb4, ↓brun_b, Nat.reduceAdd, Nat.reduceBEq, hch, hwk, bsz]
        repeat (refine And.intro (by omega) ?_)
        refine ⟨⟨i + 1, by omega⟩, [0, 1, 2], ?_, by show l.length - (i + 1) < l.length - i; omega⟩
        (refine Wk.ofC ?_; simp -dsimp (decide := true) (disch := first | omega | simp (decide := true) only [barpb0]) only [barpb7, ↓brun_b, Nat.reduceAdd, Nat.reduceBEq, hS])
        all_goals (intro e he; rw [FC.ent]; (repeat' apply And.intro) <;> first | exact Ent.self (flat_v _) | exact Ent.self (bsl_flat _) | exact Ent.self (lsl_flat _) | exact Ent.self (isl_flat _) | exact Ent_row rfl rfl (lrows_length _).symm (by omega) fun i r hr => app_row _ (lrows_flat _) i r hr | exact Ent_row rfl rfl (idrs_len _).symm (by omega) fun i r hr => app_row _ (idrs_flat _) i r hr | exact Ent_row rfl rfl (brows_length _).symm (by omega) fun i r hr => app_row _ (flatR_brows _) i r hr)
      · replace hch : strAt ⟨l.toArray⟩ i = 120 := hch
        have hS : bareG F (l.take (i + 1)) = { X with tx := F.tx } := hGb.trans rfl
        simp -dsimp (decide := true) (disch := first | omega | simp (decide := true) only [barpb0]) only [barpb10, ↓brun_b, Nat.reduceAdd, Nat.reduceBEq, hch, hwk, bsz, sapp1_sl el5, h10]
        repeat (refine And.intro (by omega) ?_)
        refine ⟨⟨i + 1, by omega⟩, [0, 1, 2], ?_, by show l.length - (i + 1) < l.length - i; omega⟩
        (refine Wk.ofC ?_; simp -dsimp (decide := true) (disch := first | omega | simp (decide := true) only [barpb0]) only [barpb7, ↓brun_b, reduceIte, Nat.reduceAdd, Nat.reduceBEq, hS, ↓reduceIte])
        all_goals (intro e he; rw [FC.ent]; (repeat' apply And.intro) <;> first | exact Ent.self (flat_v _) | exact Ent.self (bsl_flat _) | exact Ent.self (lsl_flat _) | exact Ent.self (isl_flat _) | exact Ent_row rfl rfl (lrows_length _).symm (by omega) fun i r hr => app_row _ (lrows_flat _) i r hr | exact Ent_row rfl rfl (idrs_len _).symm (by omega) fun i r hr => app_row _ (idrs_flat _) i r hr | exact Ent_row rfl rfl (brows_length _).symm (by omega) fun i r hr => app_row _ (flatR_brows _) i r hr)
      · replace hch : strAt ⟨l.toArray⟩ i = 121 := hch
        have hS : bareG F (l.take (i + 1)) = { X with tx := F.tx } := hGb.trans rfl
        simp -dsimp (decide := true) (disch := first | omega | simp (decide := true) only [barpb0]) only [barpb10, ↓brun_b, Nat.reduceAdd, Nat.reduceBEq, hch, hwk, bsz, sapp1_sl el5, h10]
        repeat (refine And.intro (by omega) ?_)
        refine ⟨⟨i + 1, by omega⟩, [0, 1, 2], ?_, by show l.length - (i + 1) < l.length - i; omega⟩
        (refine Wk.ofC ?_; simp -dsimp (decide := true) (disch := first | omega | simp (decide := true) only [barpb0]) only [barpb7, ↓brun_b, reduceIte, Nat.reduceAdd, Nat.reduceBEq, hS, ↓reduceIte])
        all_goals (intro e he; rw [FC.ent]; (repeat' apply And.intro) <;> first | exact Ent.self (flat_v _) | exact Ent.self (bsl_flat _) | exact Ent.self (lsl_flat _) | exact Ent.self (isl_flat _) | exact Ent_row rfl rfl (lrows_length _).symm (by omega) fun i r hr => app_row _ (lrows_flat _) i r hr | exact Ent_row rfl rfl (idrs_len _).symm (by omega) fun i r hr => app_row _ (idrs_flat _) i r hr | exact Ent_row rfl rfl (brows_length _).symm (by omega) fun i r hr => app_row _ (flatR_brows _) i r hr)
    · simp only [decide_eq_false_iff_not] at h1
      obtain rfl : i = l.length := by omega
      rw [List.take_length]
      generalize bareG F l = G
      simp -dsimp (decide := true) (disch := first | omega | simp (decide := true) only [barpb0]) only [barpb4, ↓brun_b, reduceIte, Nat.reduceAdd, Nat.reduceBEq]
      refine SQ.answer (rs := [.cell 2 151, .tmp 3]) rfl rfl ?_
      simp -dsimp (decide := true) (disch := first | omega | simp (decide := true) only [barpb0]) only [barpb7, ↓brun_b, Nat.reduceAdd, Nat.reduceBEq, rho]
set_option maxHeartbeats 4000000 in
theorem bare_none (F : Frm) (hk : forms F.kind = [63]) : Pure Try.prog 120 [.agg F.fc.c] (.tup [.agg zFrm.fc.c, .v (.bool false)]) := by
  have hf := form_calls F.kind
  rw [hk] at hf
  unfold fstr at hf
  refine SCall.mk (fn := Try.f120) (by kernel_rfl) rfl (Nat.le_of_ble_eq_true (by kernel_rfl)) ?_
  refine Sem.go (k := 1000) ?_
  simp -dsimp (decide := true) (disch := first | omega | simp (decide := true) only [barpb0]) only [barpb4, ↓brun_b, envOf, Nat.reduceAdd, Nat.reduceBEq, Frm.fc]
  refine SemOps.callq (k := 1000) cal.f151 (hf) rfl rfl rfl rfl (by simp only [bflat_a]) (by simp only [bflat_a]) (by simp -dsimp (decide := true) (disch := first | omega | simp (decide := true) only [barpb0]) only [barpb5]) ?_
  simp -dsimp (decide := true) (disch := first | omega | simp (decide := true) only [barpb0]) only [barpb4, ↓brun_b, Nat.reduceAdd, Nat.reduceBEq]
  have e : EntL nofz (fun i => i) zFrm.fc.c zF.c := zF_ent
  refine SQ.answer (rs := [.cell 2 151, .tmp 3]) rfl rfl ?_
  simp -dsimp (decide := true) (disch := first | omega | simp (decide := true) only [barpb0]) only [barpb7, ↓brun_b, Nat.reduceAdd, Nat.reduceBEq, rho]
  exact zF_ent
theorem bareG_bare (F : Frm) (k : Nat) (h : F.kind = k) (h1 : 1 ≤ k) (h2 : k ≤ 12) : bareG F (forms F.kind) = bare k F := by
  have : k = 1 ∨ k = 2 ∨ k = 3 ∨ k = 4 ∨ k = 5 ∨ k = 6 ∨ k = 7 ∨ k = 8 ∨ k = 9 ∨ k = 10 ∨ k = 11 ∨ k = 12 := by omega
  unfold bareG
  rcases this with rfl | rfl | rfl | rfl | rfl | rfl | rfl | rfl | rfl | rfl | rfl | rfl <;> (rw [h]; rfl)
theorem bare_calls (F : Frm) (hw : F.wf) (k : Nat) (h : F.kind = k) (h1 : 1 ≤ k) (h2 : k ≤ 12) : Pure Try.prog 120 [.agg F.fc.c] (.tup [.agg (bare k F).fc.c, .v (.bool true)]) := by
  rw [← bareG_bare F k h h1 h2]
  have : k = 1 ∨ k = 2 ∨ k = 3 ∨ k = 4 ∨ k = 5 ∨ k = 6 ∨ k = 7 ∨ k = 8 ∨ k = 9 ∨ k = 10 ∨ k = 11 ∨ k = 12 := by omega
  refine bare_loop F hw (forms F.kind) ?_ ?_ rfl ?_ <;> rw [h]
  · rcases this with rfl | rfl | rfl | rfl | rfl | rfl | rfl | rfl | rfl | rfl | rfl | rfl <;> decide
  · rcases this with rfl | rfl | rfl | rfl | rfl | rfl | rfl | rfl | rfl | rfl | rfl | rfl <;> decide
  · rcases this with rfl | rfl | rfl | rfl | rfl | rfl | rfl | rfl | rfl | rfl | rfl | rfl <;> decide
theorem forms_none (k : Int) (h : k < 1 ∨ 12 < k) : forms k = [63] := by
  unfold forms
  rw [if_neg (by omega), if_neg (by omega), if_neg (by omega), if_neg (by omega), if_neg (by omega), if_neg (by omega), if_neg (by omega), if_neg (by omega), if_neg (by omega), if_neg (by omega), if_neg (by omega), if_neg (by omega)]
end Go.Proofs
namespace Go.Proofs
open Go Go.SL
set_option maxRecDepth 100000
def allT5 (l : List Int) : Bool := l.all fun v => decide (0 ≤ v) && decide (v ≤ 5)
def rgt (F : Frm) (c : UInt8) : Bool :=
  if c = 102 then (decide (0 ≤ F.fi) && decide (0 ≤ F.fn)) else if c = 116 then (decide (0 ≤ F.ti) && decide (0 ≤ F.tn)) else if c = 110 then decide (0 ≤ F.n) else if c = 112 then decide (0 ≤ F.pn) else if c = 97 then true else if c = 98 then true else if c = 100 then true else if c = 114 then (decide ((F.tr.length : Int) ≤ 64) && allT5 F.tr) else if c = 115 then decide ((F.is.length : Int) ≤ 16) else if c = 105 then (decide (0 ≤ F.vn) && decide ((F.val.length : Int) ≤ 64)) else if c = 107 then decide (0 ≤ F.vn) else if c = 108 then (decide (0 ≤ F.op) && decide (F.op ≤ 3)) else if c = 111 then (decide (1 ≤ F.op) && decide (F.op ≤ 4)) else if c = 119 then (decide (0 ≤ F.ttl) && decide (F.ttl ≤ 64)) else if c = 120 then decide ((F.tx.length : Int) ≤ 4096) else if c = 121 then decide ((F.tx.length : Int) ≤ 64) else true
def rgtG (F : Frm) (l : List UInt8) : Bool := l.all (rgt F)
theorem rgtG_take (F : Frm) (l : List UInt8) (i : Nat) (h : i < l.length) : rgtG F (l.take (i + 1)) = (rgtG F (l.take i) && rgt F (l.getD i 0)) := by
  unfold rgtG
  rw [List.take_add_one, List.all_append, List.getD_eq_getElem?_getD, List.getElem?_eq_getElem h]
  simp
def barpb12 :=
  (aI (aI barpc1 barpc0) (aI barpc3 (aI barpc4 @tab.f151x0)))
def barpb13 :=
  (aI (aI (aI barpc1 barpc0) (aI barpc3 (aI barpc4 @bwk_a))) (aI (aI @eq_self.{1} @forall_const.{1}) (aI @implies_true.{0} (aI @implies_true.{1} @tab.f151x0))))
def barpb14 :=
  (aI (aI (aI barpc1 barpc0) (aI barpc3 (aI barpc4 @Bool.true_and))) (aI (aI @bwk_a (aI @eq_self.{1} @forall_const.{1})) (aI @implies_true.{0} (aI @implies_true.{1} @tab.f151x0))))
set_option maxHeartbeats 16000000 in
theorem right_loop (F : Frm) (hw : F.wf) (l : List UInt8) (hl : l.length < 100) (hs : ∀ c ∈ l, isLet c = true) (hk : forms F.kind = l) (hq : decide ((⟨l.toArray⟩ : ByteArray) = ⟨#[63]⟩) = false) :
    Pure Try.prog 122 [.agg F.fc.c] (.v (.bool (rgtG F l))) := by
  have hf := form_calls F.kind
  rw [hk] at hf
  unfold fstr at hf
  have h8 : F.tr.length < 4611686018427387904 := by have := hw.ltr; unfold reachBytes at this; omega
  refine SCall.mk (fn := Try.f122) (by kernel_rfl) rfl (Nat.le_of_ble_eq_true (by kernel_rfl)) ?_
  refine Sem.go (k := 1000) ?_
  simp -dsimp (decide := true) (disch := first | omega | simp (decide := true) only [barpb0]) only [barpb12, ↓brun_b, envOf, Nat.reduceBEq, Frm.fc]
  refine SemOps.callq (k := 1000) cal.f151 (hf) rfl rfl rfl rfl (by simp only [bflat_a]) (by simp only [bflat_a]) (by simp -dsimp (decide := true) (disch := first | omega | simp (decide := true) only [barpb0]) only [barpb5]) ?_
  simp -dsimp (decide := true) (disch := first | omega | simp (decide := true) only [barpb0]) only [barpb12, ↓brun_b, hq]
  refine Sem.loop (ι := {i : Nat // i ≤ l.length}) (fun i => ⟨195, 0, [(1, .ptr 0 0 0), (3, .v (.string ⟨l.toArray⟩)), (4, .v (.bool (rgtG F (l.take i.1)))), (5, .v (.int .i64 (i.1 : Int)))], [some (.row ⟨95, 1, true, 151, fun _ => F.fc.c⟩)]⟩) (fun i => l.length - i.1) ⟨0, Nat.zero_le _⟩ [0] ?_ ?_
  · have h0 : rgtG F (l.take 0) = true := rfl
    (refine Wk.ofC ?_; simp -dsimp (decide := true) (disch := first | omega | simp (decide := true) only [barpb0]) only [barpb13, ↓brun_b, Nat.reduceBEq, h0, Frm.fc])
  · rintro ⟨i, hi⟩
    refine Sem.go (k := 1000) ?_
    have bsz : (⟨l.toArray⟩ : ByteArray).size = l.length := rfl
    simp -dsimp (decide := true) (disch := first | omega | simp (decide := true) only [barpb0]) only [barpb12, ↓brun_b, Nat.reduceBEq, Frm.fc, bsz]
    refine SCond.split (fun h1 => ?_) (fun h1 => ?_)
    · simp only [decide_eq_true_eq] at h1
      have hi' : i < l.length := by omega
      have hwk : IntKind.i64.wrap ((i : Int) + 1) = ((i + 1 : Nat) : Int) := by rw [wrap_i64 _ (by omega)]; rfl
      have hmem : l.getD i 0 ∈ l := by rw [List.getD_eq_getElem?_getD, List.getElem?_eq_getElem hi', Option.getD_some]; exact List.getElem_mem hi'
      have hc := hs _ hmem
      have hGb := rgtG_take F l i hi'
      have hch := strAt_form l i
      generalize rgtG F (l.take i) = O at *
      generalize l.getD i 0 = c at *
      have hcs : c = 102 ∨ c = 116 ∨ c = 110 ∨ c = 112 ∨ c = 97 ∨ c = 98 ∨ c = 100 ∨ c = 114 ∨ c = 115 ∨ c = 105 ∨ c = 107 ∨ c = 108 ∨ c = 111 ∨ c = 119 ∨ c = 120 ∨ c = 121 := by
        unfold isLet at hc
        simpa using hc
      rcases hcs with rfl | rfl | rfl | rfl | rfl | rfl | rfl | rfl | rfl | rfl | rfl | rfl | rfl | rfl | rfl | rfl
      · replace hch : strAt ⟨l.toArray⟩ i = 102 := hch
        have hr : rgt F 102 = (decide (0 ≤ F.fi) && decide (0 ≤ F.fn)) := rfl
        cases O with
        | false =>
          simp -dsimp (decide := true) (disch := first | omega | simp (decide := true) only [barpb0]) only [barpb12, ↓brun_b, Nat.reduceBEq, hch, hwk, bsz]
          have hS : rgtG F (l.take (i + 1)) = false := by rw [hGb, hr]; simp only [Bool.false_and]
          repeat (refine And.intro (by omega) ?_)
          refine ⟨⟨i + 1, by omega⟩, [0], ?_, by show l.length - (i + 1) < l.length - i; omega⟩
          (refine Wk.ofC ?_; simp -dsimp (decide := true) (disch := first | omega | simp (decide := true) only [barpb0]) only [barpb13, ↓brun_b, Nat.reduceBEq, hS])
        | true =>
          cases h0 : decide (0 ≤ F.fi) with
          | false =>
            simp -dsimp (decide := true) (disch := first | omega | simp (decide := true) only [barpb0]) only [barpb12, ↓brun_b, Nat.reduceBEq, hch, hwk, bsz, h0]
            have hS : rgtG F (l.take (i + 1)) = false := by rw [hGb, hr]; simp only [h0, Bool.false_and, Bool.and_false]
            repeat (refine And.intro (by omega) ?_)
            refine ⟨⟨i + 1, by omega⟩, [0], ?_, by show l.length - (i + 1) < l.length - i; omega⟩
            (refine Wk.ofC ?_; simp -dsimp (decide := true) (disch := first | omega | simp (decide := true) only [barpb0]) only [barpb13, ↓brun_b, Nat.reduceBEq, hS])
          | true =>
            simp -dsimp (decide := true) (disch := first | omega | simp (decide := true) only [barpb0]) only [barpb12, ↓brun_b, Nat.reduceAdd, Nat.reduceBEq, hch, hwk, bsz, h0]
            have hS : rgtG F (l.take (i + 1)) = decide (0 ≤ F.fn) := by rw [hGb, hr]; simp only [h0, Bool.true_and]
            repeat (refine And.intro (by omega) ?_)
            refine ⟨⟨i + 1, by omega⟩, [0], ?_, by show l.length - (i + 1) < l.length - i; omega⟩
            (refine Wk.ofC ?_; simp -dsimp (decide := true) (disch := first | omega | simp (decide := true) only [barpb0]) only [barpb13, ↓brun_b, Nat.reduceBEq, hS])
      · replace hch : strAt ⟨l.toArray⟩ i = 116 := hch
        have hr : rgt F 116 = (decide (0 ≤ F.ti) && decide (0 ≤ F.tn)) := rfl
        cases O with
        | false =>
          simp -dsimp (decide := true) (disch := first | omega | simp (decide := true) only [barpb0]) only [barpb12, ↓brun_b, Nat.reduceBEq, hch, hwk, bsz]
          have hS : rgtG F (l.take (i + 1)) = false := by rw [hGb, hr]; simp only [Bool.false_and]
          repeat (refine And.intro (by omega) ?_)
          refine ⟨⟨i + 1, by omega⟩, [0], ?_, by show l.length - (i + 1) < l.length - i; omega⟩
          (refine Wk.ofC ?_; simp -dsimp (decide := true) (disch := first | omega | simp (decide := true) only [barpb0]) only [barpb13, ↓brun_b, Nat.reduceBEq, hS])
        | true =>
          cases h0 : decide (0 ≤ F.ti) with
          | false =>
            simp -dsimp (decide := true) (disch := first | omega | simp (decide := true) only [barpb0]) only [barpb12, ↓brun_b, Nat.reduceBEq, hch, hwk, bsz, h0]
            have hS : rgtG F (l.take (i + 1)) = false := by rw [hGb, hr]; simp only [h0, Bool.false_and, Bool.and_false]
            repeat (refine And.intro (by omega) ?_)
            refine ⟨⟨i + 1, by omega⟩, [0], ?_, by show l.length - (i + 1) < l.length - i; omega⟩
            (refine Wk.ofC ?_; simp -dsimp (decide := true) (disch := first | omega | simp (decide := true) only [barpb0]) only [barpb13, ↓brun_b, Nat.reduceBEq, hS])
          | true =>
            simp -dsimp (decide := true) (disch := first | omega | simp (decide := true) only [barpb0]) only [barpb12, ↓brun_b, Nat.reduceAdd, Nat.reduceBEq, hch, hwk, bsz, h0]
            have hS : rgtG F (l.take (i + 1)) = decide (0 ≤ F.tn) := by rw [hGb, hr]; simp only [h0, Bool.true_and]
            repeat (refine And.intro (by omega) ?_)
            refine ⟨⟨i + 1, by omega⟩, [0], ?_, by show l.length - (i + 1) < l.length - i; omega⟩
            (refine Wk.ofC ?_; simp -dsimp (decide := true) (disch := first | omega | simp (decide := true) only [barpb0]) only [barpb13, ↓brun_b, Nat.reduceBEq, hS])
      · replace hch : strAt ⟨l.toArray⟩ i = 110 := hch
        have hr : rgt F 110 = decide (0 ≤ F.n) := rfl
        cases O with
        | false =>
          simp -dsimp (decide := true) (disch := first | omega | simp (decide := true) only [barpb0]) only [barpb12, ↓brun_b, Nat.reduceBEq, hch, hwk, bsz]
          have hS : rgtG F (l.take (i + 1)) = false := by rw [hGb, hr]; simp only [Bool.false_and]
          repeat (refine And.intro (by omega) ?_)
          refine ⟨⟨i + 1, by omega⟩, [0], ?_, by show l.length - (i + 1) < l.length - i; omega⟩
          (refine Wk.ofC ?_; simp -dsimp (decide := true) (disch := first | omega | simp (decide := true) only [barpb0]) only [barpb13, ↓brun_b, Nat.reduceBEq, hS])
        | true =>
          simp -dsimp (decide := true) (disch := first | omega | simp (decide := true) only [barpb0]) only [barpb12, ↓brun_b, Nat.reduceBEq, hch, hwk, bsz]
          have hS : rgtG F (l.take (i + 1)) = decide (0 ≤ F.n) := by rw [hGb, hr]; simp only [Bool.true_and]
          repeat (refine And.intro (by omega) ?_)
          refine ⟨⟨i + 1, by omega⟩, [0], ?_, by show l.length - (i + 1) < l.length - i; omega⟩
          (refine Wk.ofC ?_; simp -dsimp (decide := true) (disch := first | omega | simp (decide := true) only [barpb0]) only [barpb13, ↓brun_b, Nat.reduceBEq, hS])
      · replace hch : strAt ⟨l.toArray⟩ i = 112 := hch
        have hr : rgt F 112 = decide (0 ≤ F.pn) := rfl
        cases O with
        | false =>
          simp -dsimp (decide := true) (disch := first | omega | simp (decide := true) only [barpb0]) only [barpb12, ↓brun_b, Nat.reduceBEq, hch, hwk, bsz]
          have hS : rgtG F (l.take (i + 1)) = false := by rw [hGb, hr]; simp only [Bool.false_and]
          repeat (refine And.intro (by omega) ?_)
          refine ⟨⟨i + 1, by omega⟩, [0], ?_, by show l.length - (i + 1) < l.length - i; omega⟩
          (refine Wk.ofC ?_; simp -dsimp (decide := true) (disch := first | omega | simp (decide := true) only [barpb0]) only [barpb13, ↓brun_b, Nat.reduceBEq, hS])
        | true =>
          simp -dsimp (decide := true) (disch := first | omega | simp (decide := true) only [barpb0]) only [barpb12, ↓brun_b, Nat.reduceAdd, Nat.reduceBEq, hch, hwk, bsz]
          have hS : rgtG F (l.take (i + 1)) = decide (0 ≤ F.pn) := by rw [hGb, hr]; simp only [Bool.true_and]
          repeat (refine And.intro (by omega) ?_)
          refine ⟨⟨i + 1, by omega⟩, [0], ?_, by show l.length - (i + 1) < l.length - i; omega⟩
          (refine Wk.ofC ?_; simp -dsimp (decide := true) (disch := first | omega | simp (decide := true) only [barpb0]) only [barpb13, ↓brun_b, Nat.reduceBEq, hS])
      · replace hch : strAt ⟨l.toArray⟩ i = 97 := hch
        have hr : rgt F 97 = true := rfl
        simp -dsimp (decide := true) (disch := first | omega | simp (decide := true) only [barpb0]) only [barpb12, ↓brun_b, Nat.reduceBEq, hch, hwk, bsz]
        have hS : rgtG F (l.take (i + 1)) = O := by rw [hGb, hr]; simp only [Bool.and_true]
        repeat (refine And.intro (by omega) ?_)
        refine ⟨⟨i + 1, by omega⟩, [0], ?_, by show l.length - (i + 1) < l.length - i; omega⟩
        (refine Wk.ofC ?_; simp -dsimp (decide := true) (disch := first | omega | simp (decide := true) only [barpb0]) only [barpb13, ↓brun_b, Nat.reduceBEq, hS])
      · replace hch : strAt ⟨l.toArray⟩ i = 98 := hch
        have hr : rgt F 98 = true := rfl
        simp -dsimp (decide := true) (disch := first | omega | simp (decide := true) only [barpb0]) only [barpb12, ↓brun_b, Nat.reduceBEq, hch, hwk, bsz]
        have hS : rgtG F (l.take (i + 1)) = O := by rw [hGb, hr]; simp only [Bool.and_true]
        repeat (refine And.intro (by omega) ?_)
        refine ⟨⟨i + 1, by omega⟩, [0], ?_, by show l.length - (i + 1) < l.length - i; omega⟩
        (refine Wk.ofC ?_; simp -dsimp (decide := true) (disch := first | omega | simp (decide := true) only [barpb0]) only [barpb13, ↓brun_b, Nat.reduceBEq, hS])
      · replace hch : strAt ⟨l.toArray⟩ i = 100 := hch
        have hr : rgt F 100 = true := rfl
        simp -dsimp (decide := true) (disch := first | omega | simp (decide := true) only [barpb0]) only [barpb12, ↓brun_b, Nat.reduceBEq, hch, hwk, bsz]
        have hS : rgtG F (l.take (i + 1)) = O := by rw [hGb, hr]; simp only [Bool.and_true]
        repeat (refine And.intro (by omega) ?_)
        refine ⟨⟨i + 1, by omega⟩, [0], ?_, by show l.length - (i + 1) < l.length - i; omega⟩
        (refine Wk.ofC ?_; simp -dsimp (decide := true) (disch := first | omega | simp (decide := true) only [barpb0]) only [barpb13, ↓brun_b, Nat.reduceBEq, hS])
      · replace hch : strAt ⟨l.toArray⟩ i = 114 := hch
        have hr : rgt F 114 = (decide ((F.tr.length : Int) ≤ 64) && allT5 F.tr) := rfl
        have hgo : ∀ o2 : Bool, (O && decide ((F.tr.length : Int) ≤ 64)) = o2 → rgtG F (l.take (i + 1)) = (o2 && allT5 F.tr) := fun o2 h => by rw [hGb, hr, ← Bool.and_assoc, h]
        generalize hO2 : (O && decide ((F.tr.length : Int) ≤ 64)) = o2 at hgo
        have hS := hgo o2 rfl
        cases O with
        | false =>
          have h2 : o2 = false := by rw [← hO2]; rfl
          simp -dsimp (decide := true) (disch := first | omega | simp (decide := true) only [barpb0]) only [barpb12, ↓brun_b, Nat.reduceBEq, hch, bsz]
          repeat (refine And.intro (by omega) ?_)
          refine Sem.loop (ι := {k : Nat // k ≤ F.tr.length}) (fun k => ⟨195, 0, [(1, .ptr 0 0 0), (3, .v (.string ⟨l.toArray⟩)), (4, .v (.bool (o2 && allT5 (F.tr.take k.1)))), (5, .v (.int .i64 (i : Int))), (6, .v (.int .i64 (k.1 : Int)))], [some (.row ⟨95, 1, true, 151, fun _ => F.fc.c⟩)]⟩) (fun k => F.tr.length - k.1) ⟨0, Nat.zero_le _⟩ [0] ?_ ?_
          · have h0 : (o2 && allT5 (F.tr.take 0)) = o2 := by simp [allT5]
            (refine Wk.ofC ?_; simp -dsimp (decide := true) (disch := first | omega | simp (decide := true) only [barpb0]) only [barpb13, ↓brun_b, Nat.reduceBEq, h2, Frm.fc])
          · rintro ⟨k, hk⟩
            refine Sem.go (k := 1000) ?_
            simp -dsimp (decide := true) (disch := first | omega | simp (decide := true) only [barpb0]) only [barpb12, ↓brun_b, Nat.reduceBEq, Frm.fc]
            refine SCond.split (fun h3 => ?_) (fun h3 => ?_)
            · simp only [decide_eq_true_eq] at h3
              have hk' : k < F.tr.length := by omega
              have hwk2 : IntKind.i64.wrap ((k : Int) + 1) = ((k + 1 : Nat) : Int) := by rw [wrap_i64 _ (by omega)]; rfl
              have hft : (o2 && allT5 (F.tr.take (k + 1))) = ((o2 && allT5 (F.tr.take k)) && (decide (0 ≤ F.tr.getD k 0) && decide (F.tr.getD k 0 ≤ 5))) := by
                unfold allT5
                rw [all_take _ F.tr k hk', Bool.and_assoc]
              have hat : (lrows F.tr).getD k [] = [.v (.int .i64 (F.tr.getD k 0))] := lrows_at F.tr k hk'
              generalize hP : (o2 && allT5 (F.tr.take k)) = P at *
              generalize F.tr.getD k 0 = x at *
              cases P with
              | false =>
                simp -dsimp (decide := true) (disch := first | omega | simp (decide := true) only [barpb0]) only [barpb12, ↓brun_b, Nat.reduceBEq, hwk2]
                repeat (refine And.intro (by omega) ?_)
                refine ⟨⟨k + 1, by omega⟩, [0], ?_, by show F.tr.length - (k + 1) < F.tr.length - k; omega⟩
                (refine Wk.ofC ?_; simp -dsimp (decide := true) (disch := first | omega | simp (decide := true) only [barpb0]) only [barpb13, ↓brun_b, Nat.reduceBEq, hft])
              | true =>
                cases hx : decide (0 ≤ x) with
                | false =>
                  simp -dsimp (decide := true) (disch := first | omega | simp (decide := true) only [barpb0]) only [barpb12, ↓brun_b, Nat.reduceBEq, Nat.reduceLeDiff, hat, hwk2, hx]
                  repeat (refine And.intro (by omega) ?_)
                  refine ⟨⟨k + 1, by omega⟩, [0], ?_, by show F.tr.length - (k + 1) < F.tr.length - k; omega⟩
                  (refine Wk.ofC ?_; simp -dsimp (decide := true) (disch := first | omega | simp (decide := true) only [barpb0]) only [barpb14, ↓brun_b, Nat.reduceBEq, hft, hx])
                | true =>
                  simp -dsimp (decide := true) (disch := first | omega | simp (decide := true) only [barpb0]) only [barpb12, ↓brun_b, Nat.reduceBEq, Nat.reduceLeDiff, hat, hwk2, hx]
                  repeat (refine And.intro (by omega) ?_)
                  refine ⟨⟨k + 1, by omega⟩, [0], ?_, by show F.tr.length - (k + 1) < F.tr.length - k; omega⟩
                  (refine Wk.ofC ?_; simp -dsimp (decide := true) (disch := first | omega | simp (decide := true) only [barpb0]) only [barpb14, ↓brun_b, Nat.reduceBEq, hft, hx])
            · simp only [decide_eq_false_iff_not] at h3
              obtain rfl : k = F.tr.length := by omega
              have hft : F.tr.take F.tr.length = F.tr := List.take_length
              simp -dsimp (decide := true) (disch := first | omega | simp (decide := true) only [barpb0]) only [barpb12, ↓brun_b, reduceIte, Nat.reduceBEq, hft, hwk]
              repeat (refine And.intro (by omega) ?_)
              refine ⟨⟨i + 1, by omega⟩, [0], ?_, by show l.length - (i + 1) < l.length - i; omega⟩
              (refine Wk.ofC ?_; simp -dsimp (decide := true) (disch := first | omega | simp (decide := true) only [barpb0]) only [barpb13, ↓brun_b, Nat.reduceBEq, hS])
        | true =>
          have h2 : decide ((F.tr.length : Int) ≤ 64) = o2 := by rw [← hO2]; rfl
          simp -dsimp (decide := true) (disch := first | omega | simp (decide := true) only [barpb0]) only [barpb12, ↓brun_b, Nat.reduceBEq, hch, bsz, h2]
          repeat (refine And.intro (by omega) ?_)
          refine Sem.loop (ι := {k : Nat // k ≤ F.tr.length}) (fun k => ⟨195, 0, [(1, .ptr 0 0 0), (3, .v (.string ⟨l.toArray⟩)), (4, .v (.bool (o2 && allT5 (F.tr.take k.1)))), (5, .v (.int .i64 (i : Int))), (6, .v (.int .i64 (k.1 : Int)))], [some (.row ⟨95, 1, true, 151, fun _ => F.fc.c⟩)]⟩) (fun k => F.tr.length - k.1) ⟨0, Nat.zero_le _⟩ [0] ?_ ?_
          · have h0 : (o2 && allT5 (F.tr.take 0)) = o2 := by simp [allT5]
            (refine Wk.ofC ?_; simp -dsimp (decide := true) (disch := first | omega | simp (decide := true) only [barpb0]) only [barpb13, ↓brun_b, Nat.reduceBEq, h0, Frm.fc])
          · rintro ⟨k, hk⟩
            refine Sem.go (k := 1000) ?_
            simp -dsimp (decide := true) (disch := first | omega | simp (decide := true) only [barpb0]) only [barpb12, ↓brun_b, Nat.reduceBEq, Frm.fc]
            refine SCond.split (fun h3 => ?_) (fun h3 => ?_)
            · simp only [decide_eq_true_eq] at h3
              have hk' : k < F.tr.length := by omega
              have hwk2 : IntKind.i64.wrap ((k : Int) + 1) = ((k + 1 : Nat) : Int) := by rw [wrap_i64 _ (by omega)]; rfl
              have hft : (o2 && allT5 (F.tr.take (k + 1))) = ((o2 && allT5 (F.tr.take k)) && (decide (0 ≤ F.tr.getD k 0) && decide (F.tr.getD k 0 ≤ 5))) := by
                unfold allT5
                rw [all_take _ F.tr k hk', Bool.and_assoc]
              have hat : (lrows F.tr).getD k [] = [.v (.int .i64 (F.tr.getD k 0))] := lrows_at F.tr k hk'
              generalize hP : (o2 && allT5 (F.tr.take k)) = P at *
              generalize F.tr.getD k 0 = x at *
              cases P with
              | false =>
                simp -dsimp (decide := true) (disch := first | omega | simp (decide := true) only [barpb0]) only [barpb12, ↓brun_b, Nat.reduceBEq, hwk2]
                repeat (refine And.intro (by omega) ?_)
                refine ⟨⟨k + 1, by omega⟩, [0], ?_, by show F.tr.length - (k + 1) < F.tr.length - k; omega⟩
                (refine Wk.ofC ?_; simp -dsimp (decide := true) (disch := first | omega | simp (decide := true) only [barpb0]) only [barpb13, ↓brun_b, Nat.reduceBEq, hft])
              | true =>
                cases hx : decide (0 ≤ x) with
                | false =>
                  simp -dsimp (decide := true) (disch := first | omega | simp (decide := true) only [barpb0]) only [barpb12, ↓brun_b, Nat.reduceBEq, Nat.reduceLeDiff, hat, hwk2, hx]
                  repeat (refine And.intro (by omega) ?_)
                  refine ⟨⟨k + 1, by omega⟩, [0], ?_, by show F.tr.length - (k + 1) < F.tr.length - k; omega⟩
                  (refine Wk.ofC ?_; simp -dsimp (decide := true) (disch := first | omega | simp (decide := true) only [barpb0]) only [barpb14, ↓brun_b, Nat.reduceBEq, hft, hx])
                | true =>
                  simp -dsimp (decide := true) (disch := first | omega | simp (decide := true) only [barpb0]) only [barpb12, ↓brun_b, Nat.reduceBEq, Nat.reduceLeDiff, hat, hwk2, hx]
                  repeat (refine And.intro (by omega) ?_)
                  refine ⟨⟨k + 1, by omega⟩, [0], ?_, by show F.tr.length - (k + 1) < F.tr.length - k; omega⟩
                  (refine Wk.ofC ?_; simp -dsimp (decide := true) (disch := first | omega | simp (decide := true) only [barpb0]) only [barpb14, ↓brun_b, Nat.reduceBEq, hft, hx])
            · simp only [decide_eq_false_iff_not] at h3
              obtain rfl : k = F.tr.length := by omega
              have hft : F.tr.take F.tr.length = F.tr := List.take_length
              simp -dsimp (decide := true) (disch := first | omega | simp (decide := true) only [barpb0]) only [barpb12, ↓brun_b, reduceIte, Nat.reduceBEq, hft, hwk]
              repeat (refine And.intro (by omega) ?_)
              refine ⟨⟨i + 1, by omega⟩, [0], ?_, by show l.length - (i + 1) < l.length - i; omega⟩
              (refine Wk.ofC ?_; simp -dsimp (decide := true) (disch := first | omega | simp (decide := true) only [barpb0]) only [barpb13, ↓brun_b, Nat.reduceBEq, hS])
      · replace hch : strAt ⟨l.toArray⟩ i = 115 := hch
        have hr : rgt F 115 = decide ((F.is.length : Int) ≤ 16) := rfl
        cases O with
        | false =>
          simp -dsimp (decide := true) (disch := first | omega | simp (decide := true) only [barpb0]) only [barpb12, ↓brun_b, Nat.reduceBEq, hch, hwk, bsz]
          have hS : rgtG F (l.take (i + 1)) = false := by rw [hGb, hr]; simp only [Bool.false_and]
          repeat (refine And.intro (by omega) ?_)
          refine ⟨⟨i + 1, by omega⟩, [0], ?_, by show l.length - (i + 1) < l.length - i; omega⟩
          (refine Wk.ofC ?_; simp -dsimp (decide := true) (disch := first | omega | simp (decide := true) only [barpb0]) only [barpb13, ↓brun_b, Nat.reduceBEq, hS])
        | true =>
          simp -dsimp (decide := true) (disch := first | omega | simp (decide := true) only [barpb0]) only [barpb12, ↓brun_b, Nat.reduceBEq, hch, hwk, bsz]
          have hS : rgtG F (l.take (i + 1)) = decide ((F.is.length : Int) ≤ 16) := by rw [hGb, hr]; simp only [Bool.true_and]
          repeat (refine And.intro (by omega) ?_)
          refine ⟨⟨i + 1, by omega⟩, [0], ?_, by show l.length - (i + 1) < l.length - i; omega⟩
          (refine Wk.ofC ?_; simp -dsimp (decide := true) (disch := first | omega | simp (decide := true) only [barpb0]) only [barpb13, ↓brun_b, Nat.reduceBEq, hS])
      · replace hch : strAt ⟨l.toArray⟩ i = 105 := hch
        have hr : rgt F 105 = (decide (0 ≤ F.vn) && decide ((F.val.length : Int) ≤ 64)) := rfl
        cases O with
        | false =>
          simp -dsimp (decide := true) (disch := first | omega | simp (decide := true) only [barpb0]) only [barpb12, ↓brun_b, Nat.reduceBEq, hch, hwk, bsz]
          have hS : rgtG F (l.take (i + 1)) = false := by rw [hGb, hr]; simp only [Bool.false_and]
          repeat (refine And.intro (by omega) ?_)
          refine ⟨⟨i + 1, by omega⟩, [0], ?_, by show l.length - (i + 1) < l.length - i; omega⟩
          (refine Wk.ofC ?_; simp -dsimp (decide := true) (disch := first | omega | simp (decide := true) only [barpb0]) only [barpb13, ↓brun_b, Nat.reduceBEq, hS])
        | true =>
          cases h0 : decide (0 ≤ F.vn) with
          | false =>
            simp -dsimp (decide := true) (disch := first | omega | simp (decide := true) only [barpb0]) only [barpb12, ↓brun_b, Nat.reduceAdd, Nat.reduceBEq, hch, hwk, bsz, h0]
            have hS : rgtG F (l.take (i + 1)) = false := by rw [hGb, hr]; simp only [h0, Bool.false_and, Bool.and_false]
            repeat (refine And.intro (by omega) ?_)
            refine ⟨⟨i + 1, by omega⟩, [0], ?_, by show l.length - (i + 1) < l.length - i; omega⟩
            (refine Wk.ofC ?_; simp -dsimp (decide := true) (disch := first | omega | simp (decide := true) only [barpb0]) only [barpb13, ↓brun_b, Nat.reduceBEq, hS])
          | true =>
            simp -dsimp (decide := true) (disch := first | omega | simp (decide := true) only [barpb0]) only [barpb12, ↓brun_b, Nat.reduceAdd, Nat.reduceBEq, hch, hwk, bsz, h0]
            have hS : rgtG F (l.take (i + 1)) = decide ((F.val.length : Int) ≤ 64) := by rw [hGb, hr]; simp only [h0, Bool.true_and]
            repeat (refine And.intro (by omega) ?_)
            refine ⟨⟨i + 1, by omega⟩, [0], ?_, by show l.length - (i + 1) < l.length - i; omega⟩
            (refine Wk.ofC ?_; simp -dsimp (decide := true) (disch := first | omega | simp (decide := true) only [barpb0]) only [barpb13, ↓brun_b, Nat.reduceBEq, hS])
      · replace hch : strAt ⟨l.toArray⟩ i = 107 := hch
        have hr : rgt F 107 = decide (0 ≤ F.vn) := rfl
        cases O with
        | false =>
          simp -dsimp (decide := true) (disch := first | omega | simp (decide := true) only [barpb0]) only [barpb12, ↓brun_b, Nat.reduceBEq, hch, hwk, bsz]
          have hS : rgtG F (l.take (i + 1)) = false := by rw [hGb, hr]; simp only [Bool.false_and]
          repeat (refine And.intro (by omega) ?_)
          refine ⟨⟨i + 1, by omega⟩, [0], ?_, by show l.length - (i + 1) < l.length - i; omega⟩
          (refine Wk.ofC ?_; simp -dsimp (decide := true) (disch := first | omega | simp (decide := true) only [barpb0]) only [barpb13, ↓brun_b, Nat.reduceBEq, hS])
        | true =>
          simp -dsimp (decide := true) (disch := first | omega | simp (decide := true) only [barpb0]) only [barpb12, ↓brun_b, Nat.reduceAdd, Nat.reduceBEq, hch, hwk, bsz]
          have hS : rgtG F (l.take (i + 1)) = decide (0 ≤ F.vn) := by rw [hGb, hr]; simp only [Bool.true_and]
          repeat (refine And.intro (by omega) ?_)
          refine ⟨⟨i + 1, by omega⟩, [0], ?_, by show l.length - (i + 1) < l.length - i; omega⟩
          (refine Wk.ofC ?_; simp -dsimp (decide := true) (disch := first | omega | simp (decide := true) only [barpb0]) only [barpb13, ↓brun_b, Nat.reduceBEq, hS])
      · replace hch : strAt ⟨l.toArray⟩ i = 108 := hch
        have hr : rgt F 108 = (decide (0 ≤ F.op) && decide (F.op ≤ 3)) := rfl
        cases O with
        | false =>
          simp -dsimp (decide := true) (disch := first | omega | simp (decide := true) only [barpb0]) only [barpb12, ↓brun_b, Nat.reduceBEq, hch, hwk, bsz]
          have hS : rgtG F (l.take (i + 1)) = false := by rw [hGb, hr]; simp only [Bool.false_and]
          repeat (refine And.intro (by omega) ?_)
          refine ⟨⟨i + 1, by omega⟩, [0], ?_, by show l.length - (i + 1) < l.length - i; omega⟩
          (refine Wk.ofC ?_; simp -dsimp (decide := true) (disch := first | omega | simp (decide := true) only [barpb0]) only [barpb13, ↓brun_b, Nat.reduceBEq, hS])
        | true =>
          cases h0 : decide (0 ≤ F.op) with
          | false =>
            simp -dsimp (decide := true) (disch := first | omega | simp (decide := true) only [barpb0]) only [barpb12, ↓brun_b, Nat.reduceBEq, hch, hwk, bsz, h0]
            have hS : rgtG F (l.take (i + 1)) = false := by rw [hGb, hr]; simp only [h0, Bool.false_and, Bool.and_false]
            repeat (refine And.intro (by omega) ?_)
            refine ⟨⟨i + 1, by omega⟩, [0], ?_, by show l.length - (i + 1) < l.length - i; omega⟩
            (refine Wk.ofC ?_; simp -dsimp (decide := true) (disch := first | omega | simp (decide := true) only [barpb0]) only [barpb13, ↓brun_b, Nat.reduceBEq, hS])
          | true =>
            simp -dsimp (decide := true) (disch := first | omega | simp (decide := true) only [barpb0]) only [barpb12, ↓brun_b, Nat.reduceBEq, hch, hwk, bsz, h0]
            have hS : rgtG F (l.take (i + 1)) = decide (F.op ≤ 3) := by rw [hGb, hr]; simp only [h0, Bool.true_and]
            repeat (refine And.intro (by omega) ?_)
            refine ⟨⟨i + 1, by omega⟩, [0], ?_, by show l.length - (i + 1) < l.length - i; omega⟩
            (refine Wk.ofC ?_; simp -dsimp (decide := true) (disch := first | omega | simp (decide := true) only [barpb0]) only [barpb13, ↓brun_b, Nat.reduceBEq, hS])
      · replace hch : strAt ⟨l.toArray⟩ i = 111 := hch
        have hr : rgt F 111 = (decide (1 ≤ F.op) && decide (F.op ≤ 4)) := rfl
        cases O with
        | false =>
          simp -dsimp (decide := true) (disch := first | omega | simp (decide := true) only [barpb0]) only [barpb12, ↓brun_b, Nat.reduceBEq, hch, hwk, bsz]
          have hS : rgtG F (l.take (i + 1)) = false := by rw [hGb, hr]; simp only [Bool.false_and]
          repeat (refine And.intro (by omega) ?_)
          refine ⟨⟨i + 1, by omega⟩, [0], ?_, by show l.length - (i + 1) < l.length - i; omega⟩
          (refine Wk.ofC ?_; simp -dsimp (decide := true) (disch := first | omega | simp (decide := true) only [barpb0]) only [barpb13, ↓brun_b, Nat.reduceBEq, hS])
        | true =>
          cases h0 : decide (1 ≤ F.op) with
          | false =>
            simp -dsimp (decide := true) (disch := first | omega | simp (decide := true) only [barpb0]) only [barpb12, ↓brun_b, Nat.reduceBEq, hch, hwk, bsz, h0]
            have hS : rgtG F (l.take (i + 1)) = false := by rw [hGb, hr]; simp only [h0, Bool.false_and, Bool.and_false]
            repeat (refine And.intro (by omega) ?_)
            refine ⟨⟨i + 1, by omega⟩, [0], ?_, by show l.length - (i + 1) < l.length - i; omega⟩
            (refine Wk.ofC ?_; simp -dsimp (decide := true) (disch := first | omega | simp (decide := true) only [barpb0]) only [barpb13, ↓brun_b, Nat.reduceBEq, hS])
          | true =>
            simp -dsimp (decide := true) (disch := first | omega | simp (decide := true) only [barpb0]) only [barpb12, ↓brun_b, Nat.reduceBEq, hch, hwk, bsz, h0]
            have hS : rgtG F (l.take (i + 1)) = decide (F.op ≤ 4) := by rw [hGb, hr]; simp only [h0, Bool.true_and]
            repeat (refine And.intro (by omega) ?_)
            refine ⟨⟨i + 1, by omega⟩, [0], ?_, by show l.length - (i + 1) < l.length - i; omega⟩
            (refine Wk.ofC ?_; simp -dsimp (decide := true) (disch := first | omega | simp (decide := true) only [barpb0]) only [barpb13, ↓brun_b, Nat.reduceBEq, hS])
      · replace hch : strAt ⟨l.toArray⟩ i = 119 := hch
        have hr : rgt F 119 = (decide (0 ≤ F.ttl) && decide (F.ttl ≤ 64)) := rfl
        cases O with
        | false =>
          simp -dsimp (decide := true) (disch := first | omega | simp (decide := true) only [barpb0]) only [barpb12, ↓brun_b, Nat.reduceBEq, hch, hwk, bsz]
          have hS : rgtG F (l.take (i + 1)) = false := by rw [hGb, hr]; simp only [Bool.false_and]
          repeat (refine And.intro (by omega) ?_)
          refine ⟨⟨i + 1, by omega⟩, [0], ?_, by show l.length - (i + 1) < l.length - i; omega⟩
          (refine Wk.ofC ?_; simp -dsimp (decide := true) (disch := first | omega | simp (decide := true) only [barpb0]) only [barpb13, ↓brun_b, Nat.reduceBEq, hS])
        | true =>
          cases h0 : decide (0 ≤ F.ttl) with
          | false =>
            simp -dsimp (decide := true) (disch := first | omega | simp (decide := true) only [barpb0]) only [barpb12, ↓brun_b, Nat.reduceBEq, hch, hwk, bsz, h0]
            have hS : rgtG F (l.take (i + 1)) = false := by rw [hGb, hr]; simp only [h0, Bool.false_and, Bool.and_false]
            repeat (refine And.intro (by omega) ?_)
            refine ⟨⟨i + 1, by omega⟩, [0], ?_, by show l.length - (i + 1) < l.length - i; omega⟩
            (refine Wk.ofC ?_; simp -dsimp (decide := true) (disch := first | omega | simp (decide := true) only [barpb0]) only [barpb13, ↓brun_b, Nat.reduceBEq, hS])
          | true =>
            simp -dsimp (decide := true) (disch := first | omega | simp (decide := true) only [barpb0]) only [barpb12, ↓brun_b, Nat.reduceBEq, hch, hwk, bsz, h0]
            have hS : rgtG F (l.take (i + 1)) = decide (F.ttl ≤ 64) := by rw [hGb, hr]; simp only [h0, Bool.true_and]
            repeat (refine And.intro (by omega) ?_)
            refine ⟨⟨i + 1, by omega⟩, [0], ?_, by show l.length - (i + 1) < l.length - i; omega⟩
            (refine Wk.ofC ?_; simp -dsimp (decide := true) (disch := first | omega | simp (decide := true) only [barpb0]) only [barpb13, ↓brun_b, Nat.reduceBEq, hS])
      · replace hch : strAt ⟨l.toArray⟩ i = 120 := hch
        have hr : rgt F 120 = decide ((F.tx.length : Int) ≤ 4096) := rfl
        cases O with
        | false =>
          simp -dsimp (decide := true) (disch := first | omega | simp (decide := true) only [barpb0]) only [barpb12, ↓brun_b, Nat.reduceBEq, hch, hwk, bsz]
          have hS : rgtG F (l.take (i + 1)) = false := by rw [hGb, hr]; simp only [Bool.false_and]
          repeat (refine And.intro (by omega) ?_)
          refine ⟨⟨i + 1, by omega⟩, [0], ?_, by show l.length - (i + 1) < l.length - i; omega⟩
          (refine Wk.ofC ?_; simp -dsimp (decide := true) (disch := first | omega | simp (decide := true) only [barpb0]) only [barpb13, ↓brun_b, Nat.reduceBEq, hS])
        | true =>
          simp -dsimp (decide := true) (disch := first | omega | simp (decide := true) only [barpb0]) only [barpb12, ↓brun_b, Nat.reduceBEq, hch, hwk, bsz]
          have hS : rgtG F (l.take (i + 1)) = decide ((F.tx.length : Int) ≤ 4096) := by rw [hGb, hr]; simp only [Bool.true_and]
          repeat (refine And.intro (by omega) ?_)
          refine ⟨⟨i + 1, by omega⟩, [0], ?_, by show l.length - (i + 1) < l.length - i; omega⟩
          (refine Wk.ofC ?_; simp -dsimp (decide := true) (disch := first | omega | simp (decide := true) only [barpb0]) only [barpb13, ↓brun_b, Nat.reduceBEq, hS])
      · replace hch : strAt ⟨l.toArray⟩ i = 121 := hch
        have hr : rgt F 121 = decide ((F.tx.length : Int) ≤ 64) := rfl
        cases O with
        | false =>
          simp -dsimp (decide := true) (disch := first | omega | simp (decide := true) only [barpb0]) only [barpb12, ↓brun_b, Nat.reduceBEq, hch, hwk, bsz]
          have hS : rgtG F (l.take (i + 1)) = false := by rw [hGb, hr]; simp only [Bool.false_and]
          repeat (refine And.intro (by omega) ?_)
          refine ⟨⟨i + 1, by omega⟩, [0], ?_, by show l.length - (i + 1) < l.length - i; omega⟩
          (refine Wk.ofC ?_; simp -dsimp (decide := true) (disch := first | omega | simp (decide := true) only [barpb0]) only [barpb13, ↓brun_b, Nat.reduceBEq, hS])
        | true =>
          simp -dsimp (decide := true) (disch := first | omega | simp (decide := true) only [barpb0]) only [barpb12, ↓brun_b, Nat.reduceBEq, hch, hwk, bsz]
          have hS : rgtG F (l.take (i + 1)) = decide ((F.tx.length : Int) ≤ 64) := by rw [hGb, hr]; simp only [Bool.true_and]
          repeat (refine And.intro (by omega) ?_)
          refine ⟨⟨i + 1, by omega⟩, [0], ?_, by show l.length - (i + 1) < l.length - i; omega⟩
          (refine Wk.ofC ?_; simp -dsimp (decide := true) (disch := first | omega | simp (decide := true) only [barpb0]) only [barpb13, ↓brun_b, Nat.reduceBEq, hS])
    · simp only [decide_eq_false_iff_not] at h1
      obtain rfl : i = l.length := by omega
      rw [List.take_length]
      generalize rgtG F l = O
      simp -dsimp (decide := true) (disch := first | omega | simp (decide := true) only [barpb0]) only [barpb12, ↓brun_b, reduceIte, Nat.reduceBEq]
      refine SQ.answer (rs := [.tmp 2]) rfl rfl ?_
      simp -dsimp (decide := true) (disch := first | omega | simp (decide := true) only [barpb0]) only [barpb13, ↓brun_b, rho]
end Go.Proofs
