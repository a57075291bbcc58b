/- Contracts of functions that the laws reach, on abstract values, and what they need: no conditions but those that each theorem states. -/
import Derived.Test.YtheodenjjaoncaaDecP1
set_option linter.unusedVariables false
set_option linter.unusedSimpArgs false
set_option linter.defProp false
namespace Go.Proofs
open Go Go.SL
set_option maxRecDepth 100000
def restD (fn : Func) : Option Go.Code :=
  match fn.body with
  | some (Go.Code.seq _ (Go.Code.seq _ (Go.Code.seq _ (Go.Code.seq _ c)))) => some c
  | _ => none
def decp2b0 :=
  (And.intro (And.intro (And.intro (And.intro @FC.c_length @FC.flat_eq) (And.intro @FC.one_eq @I16.c_length)) (And.intro (And.intro @I16.flat @I16.one) (And.intro @IC.c_length @IC.flat))) (And.intro (And.intro (And.intro @IC.one @bdset_a) (And.intro @bsl_flat @idrs_flat)) (And.intro (And.intro @idrs_len @p144_flat) (And.intro @p144_one @zF.eq_1))))
def decp2c0 :=
  (And.intro (And.intro (And.intro (And.intro (And.intro @FC.at_is @FC.at_kind) (And.intro @FC.at_op (And.intro @FC.at_ttl @FC.part))) (And.intro (And.intro @FC.set_P @FC.set_a) (And.intro @FC.set_all (And.intro @FC.set_b @FC.set_from)))) (And.intro (And.intro (And.intro @FC.set_is @FC.set_it) (And.intro @FC.set_key (And.intro @FC.set_kind @FC.set_n))) (And.intro (And.intro @FC.set_op (And.intro @FC.set_to @FC.set_toA)) (And.intro @FC.set_tr (And.intro @FC.set_ttl @FC.set_tx))))) (And.intro (And.intro (And.intro (And.intro @FC.set_ver @Int.cast_ofNat_Int) (And.intro @SKren_row (And.intro @after_mk @al151))) (And.intro (And.intro @al37 @b251) (And.intro @brows_renR (And.intro @build151z @cellAt_succ)))) (And.intro (And.intro (And.intro @cellAt_zero @lrows_renR) (And.intro @mergeL_done (And.intro @mergeL_own @mk37))) (And.intro (And.intro @renL_cons (And.intro @renL_flat @renL_nil)) (And.intro @ren_tup (And.intro @splice_0 @splice_c))))))
def decp2c1 :=
  (And.intro (And.intro (And.intro (And.intro (And.intro @beq_self_eq_true.{0} @brun_a) (And.intro @cond_false.{1} @cond_true.{1})) (And.intro (And.intro @tab.a151 @tab.a3) (And.intro @tab.a79 (And.intro @tab.f149x0 @tab.f149x1)))) (And.intro (And.intro (And.intro @tab.f151x0 @tab.f151x1) (And.intro @tab.f151x10 (And.intro @tab.f151x11 @tab.f151x12))) (And.intro (And.intro @tab.f151x13 @tab.f151x2) (And.intro @tab.f151x3 (And.intro @tab.f151x4 @tab.f151x5))))) (And.intro (And.intro (And.intro (And.intro @tab.f151x6 @tab.f151x7) (And.intro @tab.f151x8 (And.intro @tab.f151x9 @tab.f251x1))) (And.intro (And.intro @tab.s135 @tab.s144) (And.intro @tab.s145 (And.intro @tab.s147 @tab.s149)))) (And.intro (And.intro (And.intro @tab.s151 @tab.s2) (And.intro @tab.s23 (And.intro @tab.s3 @tab.s35))) (And.intro (And.intro @tab.s37 @tab.s4) (And.intro @tab.s79 (And.intro @tab.u35 @tab.u79))))))
def decp2b1 :=
  (And.intro decp2c0 (And.intro decp2c1 @FC.c_length))
def decp2b2 :=
  (And.intro (And.intro (And.intro decp2c0 decp2c1) (And.intro @FC.c_length @bwk_a)) (And.intro (And.intro @eq_self.{1} @forall_const.{1}) (And.intro @implies_true.{0} @implies_true.{1})))
def decp2b4 :=
  (And.intro (And.intro (And.intro decp2c0 decp2c1) (And.intro @FC.c_length @FC.ent)) (And.intro (And.intro @bwk_a @eq_self.{1}) (And.intro @forall_const.{1} (And.intro @implies_true.{0} @implies_true.{1}))))
set_option maxHeartbeats 4000000 in
theorem dec_head (b : List UInt8) (hb : b.length ≤ 140737488355328) (k : Nat) (q : Int) (h0 : rnum b 0 = .ok (k, q)) (m : Int) (hm : ((min k 99 : Nat) : Int) = m)
    (tail : ∀ c, restD Try.f117 = some c → Go.SL.Sem Try.prog (QD Try.prog Try.f117 152 [.ptr 0 0 0, .ptr 1 0 0] (DR b)) [.code c] ⟨206, 2, [(0, bsl b), (2, .ptr 0 0 0), (3, .ptr 1 0 0), (4, .ptr 2 0 0)], [some (.row ⟨95, 1, true, 151, fun _ => FC.c { zF with kind := .v (.int .i64 m) }⟩), some (.row ⟨1, 1, true, 37, fun _ => [.v (.int .i64 0)]⟩), some (.row ⟨2, 1, true, 251, fun _ => [bsl b, .v (.int .i64 q)]⟩)]⟩) : SCall Try.prog 117 [bsl b] [] (DR b) := by
  have hp0 : I64 0 := by unfold I64; omega
  have hc := (num_takes b 0 hb hp0).1 _ _ h0
  have hmin : min (k : Int) 99 = m := by rw [← hm]; omega
  have hmin2 : (if (99 : Int) < (k : Int) then (99 : Int) else (k : Int)) = m := by rw [← hm]; split <;> omega
  refine SCall.mkDefer (fn := Try.f117) (by kernel_rfl) rfl (Nat.le_of_ble_eq_true (by kernel_rfl)) ?_
  refine Sem.go (k := 1000) ?_
  simp -dsimp (decide := true) (disch := first | omega | simp (decide := true) only [decp2b0]) only [decp2b1, ↓brun_b, envOf]
  refine ⟨_, _, _, _, _, _, rfl, rfl, rfl, rfl, rfl, rfl, Nat.lt_of_sub_pos (by decide : 0 < 206 - 5), ?_, cal.f152, ?_⟩
  · simp -dsimp (decide := true) (disch := first | omega | simp (decide := true) only [decp2b0]) only [decp2b1]
  refine Sem.go (k := 3) ?_
  simp -dsimp (decide := true) (disch := first | omega | simp (decide := true) only [decp2b0]) only [decp2b1, ↓brun_b, Nat.reduceAdd, Nat.reduceBEq]
  refine Sem.cutW [_] ⟨206, 2, [(0, bsl b), (2, .ptr 0 0 0), (3, .ptr 1 0 0), (4, .ptr 2 0 0)], [some (.row ⟨95, 1, true, 151, fun _ => FC.c { zF with kind := .v (.int .i64 m) }⟩), some (.row ⟨1, 1, true, 37, fun _ => [.v (.int .i64 0)]⟩), some (.row ⟨2, 1, true, 251, fun _ => [bsl b, .v (.int .i64 q)]⟩)]⟩ ?_ (tail _ rfl)
  refine Sem.go (k := 1000) ?_
  simp -dsimp (decide := true) (disch := first | omega | simp (decide := true) only [decp2b0]) only [decp2b1, ↓brun_b, Nat.reduceAdd]
  refine SemOps.callw [2] cal.f153 (hc) rfl rfl rfl (by simp -dsimp (decide := true) (disch := first | omega | simp (decide := true) only [decp2b0]) only [decp2b2, ↓brun_b, Nat.reduceAdd]) rfl (by simp -dsimp (decide := true) (disch := first | omega | simp (decide := true) only [decp2b0]) only [decp2b2, Nat.reduceAdd]) (by simp -dsimp (decide := true) (disch := first | omega | simp (decide := true) only [decp2b0]) only [decp2c1]) ?_
  refine SemOps.go (k := 1000) ?_
  simp -dsimp (decide := true) (disch := first | omega | simp (decide := true) only [decp2b0]) only [decp2b1, ↓brun_b, Nat.reduceAdd, Nat.reduceBEq, hmin2]
  refine ⟨[0, 1, 2], ?_⟩
  (refine Wk.ofC ?_; simp -dsimp (decide := true) (disch := first | omega | simp (decide := true) only [decp2b0]) only [decp2b4, ↓brun_b, Nat.reduceAdd, Nat.reduceBEq])
end Go.Proofs
namespace Go.Proofs
open Go Go.SL
set_option maxRecDepth 100000
theorem ridl_err {b : List UInt8} {p e : Int} (h : rmany 16 b p = .error e) : ridl b p = .error e := by unfold ridl; rw [Rd.bind_err h]
theorem ridl_ok {b : List UInt8} {p q : Int} {n : Nat} (h : rmany 16 b p = .ok (n, q)) : ridl b p = rids n b q := by unfold ridl; rw [Rd.bind_ok h]
def IdsAt (n : Nat) (b : List UInt8) (p0 : Int) (k : Nat) (l : List I16) (q : Int) : Prop :=
  rids n b p0 = match rids (n - k) b q with
    | .error e => .error e
    | .ok (m, q') => .ok (l ++ m, q')
theorem idsAt_err {n : Nat} {b : List UInt8} {p0 : Int} {k : Nat} {l : List I16} {q e : Int} (h : IdsAt n b p0 k l q) (hk : k < n) (hg : ridI b q = .error e) : rids n b p0 = .error e := by
  obtain ⟨j, hj⟩ : ∃ j, n - k = j + 1 := ⟨n - k - 1, by omega⟩
  unfold IdsAt at h
  rw [h, hj, rids, Rd.bind_err hg]
theorem idsAt_step {n : Nat} {b : List UInt8} {p0 : Int} {k : Nat} {l : List I16} {q : Int} {x : I16} {q' : Int} (h : IdsAt n b p0 k l q) (hk : k < n) (hg : ridI b q = .ok (x, q')) : IdsAt n b p0 (k + 1) (l ++ [x]) q' := by
  obtain ⟨j, hj⟩ : ∃ j, n - k = j + 1 := ⟨n - k - 1, by omega⟩
  unfold IdsAt at h ⊢
  rw [h, hj, rids, Rd.bind_ok hg, show n - (k + 1) = j by omega]
  rcases hr : rids j b q' with e | ⟨m, q2⟩
  · rw [Rd.bind_err hr]
  · rw [Rd.bind_ok hr, Rd.pure]
    simp
theorem idsAt_end {n : Nat} {b : List UInt8} {p0 : Int} {l : List I16} {q : Int} (h : IdsAt n b p0 n l q) : rids n b p0 = .ok (l, q) := by
  unfold IdsAt at h
  rw [h, Nat.sub_self, rids, Rd.pure]
  simp
theorem bs79 (N : Nat) (x : I16) : sBuildSlice Try.prog N 79 1 [(0, .agg x.c)] = some ⟨.slc N 0 1, ⟨none, some (.row ⟨16, 1, true, 23, fun e => (x.c.drop (e * 16)).take 16⟩)⟩, True⟩ :=
  buildSlice_one tab.u79 tab.s23 tab.z23 (by decide) rfl (by decide) x.c _ rfl (by rw [I16.c_length]) (I16.one x)
theorem app_idrs {fz : Nat → Option SB} {ρ : Nat → Nat} (l : List I16) (x : I16) (e : Nat) (he : e < l.length + 1) : EntL fz ρ ((idrs (l ++ [x])).getD e []) (if e < l.length then (idrs l).getD e [] else (x.c.drop ((e - l.length) * 16)).take 16) := by
  by_cases h : e < l.length
  · have e1 : (idrs (l ++ [x])).getD e [] = (idrs l).getD e [] := by
      simp only [idrs, List.map_append, List.getD_eq_getElem?_getD]
      rw [List.getElem?_append_left (by rw [List.length_map]; exact h)]
    rw [if_pos h, e1, idrs_at l e h I16.zero]; exact EntL.self (I16.flat _)
  · obtain rfl : e = l.length := by omega
    have e1 : (idrs (l ++ [x])).getD l.length [] = x.c := by simp [idrs, List.getD_eq_getElem?_getD]
    rw [if_neg h, Nat.sub_self, e1, Nat.zero_mul, List.drop_zero, List.take_of_length_le (by rw [I16.c_length]; exact Nat.le_refl _)]
    exact EntL.self (I16.flat _)
theorem ids_row {fz : Nat → Option SB} {ρ : Nat → Nat} (l : List I16) (i : Nat) (r : List SV) (h : (idrs l)[i]? = some r) : EntL fz ρ r ((idrs l).getD (0 + i) []) := by
  have e : (idrs l).getD (0 + i) [] = r := by rw [Nat.zero_add, List.getD_eq_getElem?_getD, h, Option.getD_some]
  rw [e]
  exact EntL.self (flatR_getD _ i r (idrs_flat l) h)
theorem FC.put_is (x : FC) (v : SV) : x.c.set 57 v = FC.c { x with is := v } := by simp [FC.c, I16.c_length]
theorem FC.get_is (x : FC) : x.c[57]? = some x.is := by simp [FC.c, I16.c_length]
theorem rmany_at {most : Int} : RdAt (rmany most) := fun b p x q e => by
  unfold rmany at e
  rcases hg : rnum b p with e' | ⟨y, q'⟩
  · rw [hg] at e; cases e
  · rw [hg] at e
    simp only at e
    split at e
    · cases e
    · injection e with e
      injection e with _ e
      rw [← e]
      exact rnum_at b p y q' hg
theorem rmany_le {most : Int} {b : List UInt8} {p q : Int} {n : Nat} (e : rmany most b p = .ok (n, q)) : (n : Int) ≤ most := by
  unfold rmany at e
  rcases hg : rnum b p with e' | ⟨y, q'⟩
  · rw [hg] at e; cases e
  · rw [hg] at e
    simp only at e
    split at e
    · cases e
    · injection e with e
      injection e with e _
      omega
set_option maxHeartbeats 4000000 in
theorem dec_bad (b : List UInt8) (hb : b.length ≤ 140737488355328) (e : Int) (h0 : rnum b 0 = .error e) : SCall Try.prog 117 [bsl b] [] (DR b) := by
  have hp0 : I64 0 := by unfold I64; omega
  have hc := (num_takes b 0 hb hp0).2 _ h0
  refine SCall.mkDefer (fn := Try.f117) (by kernel_rfl) rfl (Nat.le_of_ble_eq_true (by kernel_rfl)) ?_
  refine Sem.go (k := 1000) ?_
  simp -dsimp (decide := true) (disch := first | omega | simp (decide := true) only [decp2b0]) only [decp2b1, ↓brun_b, envOf]
  refine ⟨_, _, _, _, _, _, rfl, rfl, rfl, rfl, rfl, rfl, Nat.lt_of_sub_pos (by decide : 0 < 206 - 5), ?_, cal.f152, ?_⟩
  · simp -dsimp (decide := true) (disch := first | omega | simp (decide := true) only [decp2b0]) only [decp2b1]
  refine Sem.go (k := 1000) ?_
  simp -dsimp (decide := true) (disch := first | omega | simp (decide := true) only [decp2b0]) only [decp2b1, ↓brun_b, Nat.reduceAdd, Nat.reduceBEq]
  refine SemOps.callPanL [2] cal.f153 (hc) (fun _ => rfl) rfl rfl rfl (by simp -dsimp (decide := true) (disch := first | omega | simp (decide := true) only [decp2b0]) only [decp2b2, ↓brun_b, Nat.reduceAdd]) rfl (by simp -dsimp (decide := true) (disch := first | omega | simp (decide := true) only [decp2b0]) only [decp2b2, Nat.reduceAdd]) (by simp -dsimp (decide := true) (disch := first | omega | simp (decide := true) only [decp2b0]) only [decp2c1]) ?_
  exact dec_panL (by decide) rfl rfl (FC.c_length _) rfl rfl rfl (decode_num h0)
set_option maxHeartbeats 4000000 in
theorem dec_un (b : List UInt8) (hb : b.length ≤ 140737488355328) (k : Nat) (q : Int) (h0 : rnum b 0 = .ok (k, q)) (hk : ¬ (1 ≤ k ∧ k ≤ 12)) : SCall Try.prog 117 [bsl b] [] (DR b) := by
  have hmin : min (k : Int) 99 = ((min k 99 : Nat) : Int) := by omega
  have hmin2 : (if (99 : Int) < (k : Int) then (99 : Int) else (k : Int)) = ((min k 99 : Nat) : Int) := by split <;> omega
  have d1 : decide (((min k 99 : Nat) : Int) = 1) = false := decide_eq_false (by omega)
  have d2 : decide (((min k 99 : Nat) : Int) = 2) = false := decide_eq_false (by omega)
  have d3 : decide (((min k 99 : Nat) : Int) = 3) = false := decide_eq_false (by omega)
  have d4 : decide (((min k 99 : Nat) : Int) = 4) = false := decide_eq_false (by omega)
  have d5 : decide (((min k 99 : Nat) : Int) = 5) = false := decide_eq_false (by omega)
  have d6 : decide (((min k 99 : Nat) : Int) = 6) = false := decide_eq_false (by omega)
  have d7 : decide (((min k 99 : Nat) : Int) = 7) = false := decide_eq_false (by omega)
  have d8 : decide (((min k 99 : Nat) : Int) = 8) = false := decide_eq_false (by omega)
  have d9 : decide (((min k 99 : Nat) : Int) = 9) = false := decide_eq_false (by omega)
  have d10 : decide (((min k 99 : Nat) : Int) = 10) = false := decide_eq_false (by omega)
  have d11 : decide (((min k 99 : Nat) : Int) = 11) = false := decide_eq_false (by omega)
  have d12 : decide (((min k 99 : Nat) : Int) = 12) = false := decide_eq_false (by omega)
  have hp0 : I64 0 := by unfold I64; omega
  have hq : I64 q := rnum_at.i64 hb h0
  refine dec_head b hb k q h0 _ rfl fun c hc => ?_
  cases hc
  refine Sem.go (k := 1000) ?_
  simp -dsimp (decide := true) (disch := first | omega | simp (decide := true) only [decp2b0]) only [decp2b1, ↓brun_b, Nat.reduceAdd, Nat.reduceBEq, d1, d2, d3, d4, d5, d6, d7, d8, d9, d10, d11, d12]
  have hB : rbody (min k 99) b q = .error 2 := by
    have : rbody (min k 99) = Rd.fail 2 := by
      generalize hm : min k 99 = m
      have : ¬ (1 ≤ m ∧ m ≤ 12) := by omega
      unfold rbody
      split <;> first | omega | rfl
    rw [this]
    rfl
  exact dec_ret rfl rfl (FC.c_length _) rfl rfl rfl zFrm zF_ent (decode_err h0 hB)
def decp2b5 :=
  (And.intro (And.intro (And.intro decp2c0 decp2c1) (And.intro @FC.c_length (And.intro @FC.ent @FC.put_is))) (And.intro (And.intro @List.length_nil.{0} (And.intro @bwk_a @eq_self.{1})) (And.intro @forall_const.{1} (And.intro @implies_true.{0} @implies_true.{1}))))
def decp2b6 :=
  (And.intro (And.intro decp2c0 (And.intro decp2c1 @FC.c_length)) (And.intro @swScp_alt (And.intro @swScp_non @swScp_pan)))
def decp2b7 :=
  (And.intro (And.intro (And.intro @List.length_cons.{0} @List.length_nil.{0}) (And.intro @Nat.zero_add @roL_in)) (And.intro (And.intro @roL_nil @roL_none) (And.intro @roL_row @ro_mk)))
def decp2b8 :=
  (And.intro (And.intro decp2c0 decp2c1) (And.intro @FC.c_length @bs79))
set_option maxHeartbeats 4000000 in
theorem dec_7 (b : List UInt8) (hb : b.length ≤ 140737488355328) (q : Int) (h0 : rnum b 0 = .ok (7, q)) : SCall Try.prog 117 [bsl b] [] (DR b) := by
  have hp0 : I64 0 := by unfold I64; omega
  have hq : I64 q := rnum_at.i64 hb h0
  refine dec_head b hb 7 q h0 7 rfl fun c hc => ?_
  cases hc
  refine Sem.go (k := 1000) ?_
  simp -dsimp (decide := true) (disch := first | omega | simp (decide := true) only [decp2b0]) only [decp2b1, ↓brun_b, Nat.reduceAdd, Nat.reduceBEq]
  refine dec_call (path_takes b q hb hq) cal.f157 rfl rfl rfl (by simp -dsimp (decide := true) (disch := first | omega | simp (decide := true) only [decp2b0]) only [decp2b2, ↓brun_b, Nat.reduceAdd]) (by simp -dsimp (decide := true) (disch := first | omega | simp (decide := true) only [decp2b0]) only [decp2b2, Nat.reduceAdd]) (by simp -dsimp (decide := true) (disch := first | omega | simp (decide := true) only [decp2b0]) only [decp2c1]) rfl rfl (FC.c_length _) rfl rfl rfl ?_ ?_
  · exact fun e g1 => decode_err h0 (by show rbody 7 b q = _; simp only [rbody, Rd.map, Rd.both, g1])
  rintro ⟨x1a, x1b⟩ q1 g1
  have hq1 := rpath_at.i64 hb g1
  refine SemOps.go (k := 1000) ?_
  simp -dsimp (decide := true) (disch := first | omega | simp (decide := true) only [decp2b0]) only [decp2b1, ↓brun_b, Nat.reduceAdd, Nat.reduceBEq]
  refine dec_call (flag_takes b q1 hb hq1) cal.f159 rfl rfl rfl (by simp -dsimp (decide := true) (disch := first | omega | simp (decide := true) only [decp2b0]) only [decp2b2, ↓brun_b, Nat.reduceAdd]) (by simp -dsimp (decide := true) (disch := first | omega | simp (decide := true) only [decp2b0]) only [decp2b2, Nat.reduceAdd]) (by simp -dsimp (decide := true) (disch := first | omega | simp (decide := true) only [decp2b0]) only [decp2c1]) rfl rfl (FC.c_length _) rfl rfl rfl ?_ ?_
  · exact fun e g2 => decode_err h0 (by show rbody 7 b q = _; simp only [rbody, Rd.map, Rd.both, g1, g2])
  rintro x2a q2 g2
  have hq2 := rflag_at.i64 hb g2
  refine SemOps.go (k := 1000) ?_
  simp -dsimp (decide := true) (disch := first | omega | simp (decide := true) only [decp2b0]) only [decp2b1, ↓brun_b, Nat.reduceAdd, Nat.reduceBEq]
  refine dec_call (many_takes 16 b q2 hb hq2) cal.f160 rfl rfl rfl (by simp -dsimp (decide := true) (disch := first | omega | simp (decide := true) only [decp2b0]) only [decp2b2, ↓brun_b, Nat.reduceAdd]) (by simp -dsimp (decide := true) (disch := first | omega | simp (decide := true) only [decp2b0]) only [decp2b2, Nat.reduceAdd]) (by simp -dsimp (decide := true) (disch := first | omega | simp (decide := true) only [decp2b0]) only [decp2c1]) rfl rfl (FC.c_length _) rfl rfl rfl ?_ ?_
  · exact fun e g3 => decode_err h0 (by show rbody 7 b q = _; simp only [rbody, Rd.map, Rd.both, g1, g2, ridl_err g3])
  rintro n q3 g3
  have hq3 := rmany_at.i64 hb g3
  have hn16 := rmany_le g3
  have gl := ridl_ok g3
  refine SemOps.go (k := 1000) ?_
  simp -dsimp (decide := true) (disch := first | omega | simp (decide := true) only [decp2b0]) only [decp2b1, ↓brun_b, Nat.reduceAdd]
  refine Lent.sem (Lent.ghostB 0 57 16 23 rfl (FC.get_is _)) ?_
  refine Sem.loop (ι := {p : Nat × List I16 × Int // p.1 ≤ n ∧ p.2.1.length = p.1 ∧ I64 p.2.2 ∧ IdsAt n b q3 p.1 p.2.1 p.2.2}) (fun p => ⟨206, 2, [(0, bsl b), (2, .ptr 0 0 0), (3, .ptr 1 0 0), (4, .ptr 2 0 0), (88, .v (.int .i64 (n : Int))), (89, .v (.int .i64 (p.1.1 : Int)))], [some (.row ⟨95, 1, true, 151, fun _ => FC.c { zF with kind := .v (.int .i64 7), who := x1a, pn := .v (.int .i64 (x1b : Int)), toA := .v (.bool x2a), is := .slc 3 0 p.1.2.1.length }⟩), some (.row ⟨1, 1, true, 37, fun _ => [.v (.int .i64 0)]⟩), some (.row ⟨2, 1, true, 251, fun _ => [bsl b, .v (.int .i64 p.1.2.2)]⟩), some (.row ⟨16, p.1.2.1.length, true, 23, fun e => (idrs p.1.2.1).getD e []⟩)]⟩) (fun p => n - p.1.1) ⟨(0, [], q3), Nat.zero_le _, rfl, hq3, by unfold IdsAt; rw [Nat.sub_zero]; rcases rids n b q3 with e | ⟨m, q'⟩ <;> rfl⟩ [0, 1, 2, 3] ?_ ?_
  · (refine Wk.ofC ?_; simp -dsimp (decide := true) (disch := first | omega | simp (decide := true) only [decp2b0]) only [decp2b5, ↓brun_b, Nat.reduceAdd, Nat.reduceBEq])
  · rintro ⟨⟨k, l, q4⟩, hk, hl, hq4, hat⟩
    simp only at hk hl hq4 hat
    obtain ⟨m1, m2⟩ := idI_takes b q4 hb hq4
    refine Sem.go (k := 1000) ?_
    simp -dsimp (decide := true) (disch := first | omega | simp (decide := true) only [decp2b0]) only [decp2b1, ↓brun_b, Nat.reduceAdd, Nat.reduceBEq]
    refine SCond.split (fun h1 => ?_) (fun h1 => ?_)
    · simp only [decide_eq_true_eq] at h1
      have hk' : k < n := by omega
      have hwk : IntKind.i64.wrap ((k : Int) + 1) = ((k + 1 : Nat) : Int) := by rw [wrap_i64 _ (by omega)]; rfl
      simp -dsimp (decide := true) (disch := first | omega | simp (decide := true) only [decp2b0]) only [decp2b1]
      rcases g4 : ridI b q4 with e | ⟨x, q5⟩
      · have hd := m2 _ g4
        have he := idsAt_err hat hk' g4
        refine Sem.drawPan (by kernel_rfl) (.alt 0 (.alt 1 (.alt 2 (.pan 3 .non) .non) (.alt 2 (.alt 1 (.pan 3 .non) (.pan 3 .non)) .non)) (.alt 2 (.alt 0 (.alt 1 (.pan 3 .non) (.pan 3 .non)) (.pan 3 .non)) .non)) (by kernel_rfl) ?_
        simp -dsimp (decide := true) (disch := first | omega | simp (decide := true) only [decp2b0]) only [decp2b6, ↓brun_b, Nat.reduceAdd, Nat.reduceBEq]
        (repeat' refine And.intro ?_ ?_)
        all_goals
          refine OpPan.callL [2] cal.f155 (hd) (fun _ => rfl) rfl rfl (by simp -dsimp (decide := true) (disch := first | omega | simp (decide := true) only [decp2b0]) only [decp2b2, ↓brun_b, Nat.reduceAdd, Nat.reduceBEq]) rfl (by simp -dsimp (decide := true) (disch := first | omega | simp (decide := true) only [decp2b0]) only [decp2b2, Nat.reduceAdd]) ?_
          exact dec_panL (by decide) rfl rfl (FC.c_length _) rfl rfl rfl (decode_err h0 (by show rbody 7 b q = _; simp only [rbody, Rd.map, Rd.both, g1, g2, gl, he]))
      · have hd := m1 x q5 g4
        have he := idsAt_step hat hk' g4
        have hq5 := ridI_at.i64 hb g4
        refine Sem.draw' (by kernel_rfl) (.one 0 (.one 2 (.alt 1 (.alt 3 (.alt 4 (.alt 5 (.one 6 (.alt 7 .done .non)) .non) .non) .non) (.alt 3 (.alt 1 (.alt 4 (.alt 5 (.one 6 (.alt 7 .done .non)) .non) .non) (.alt 4 (.alt 1 (.alt 5 (.one 6 (.alt 7 .done .non)) .non) .non) .non)) .non)))) [0, 2, 3] (by kernel_rfl) (fun G ff hG hf => ?_)
        simp (decide := true) only [decp2b7, Nat.reduceAdd] at hG ⊢
        simp -dsimp (decide := true) (disch := first | omega | simp (decide := true) only [decp2b0]) only [decp2b1, ↓brun_b, Nat.reduceAdd, Nat.reduceBEq]
        (repeat' refine And.intro ?_ ?_)
        all_goals
          refine OpSem.callw [2] cal.f155 (hd) rfl rfl (by simp -dsimp (decide := true) (disch := first | omega | simp (decide := true) only [decp2b0]) only [decp2b2, ↓brun_b, Nat.reduceAdd, Nat.reduceBEq]) rfl (by simp -dsimp (decide := true) (disch := first | omega | simp (decide := true) only [decp2b0]) only [decp2b2, Nat.reduceAdd]) (by simp -dsimp (decide := true) (disch := first | omega | simp (decide := true) only [decp2b0]) only [decp2c1]) ?_
          simp -dsimp (decide := true) (disch := first | omega | simp (decide := true) only [decp2b0]) only [decp2b8, ↓brun_b, Nat.reduceAdd, Nat.reduceBEq, sapp1_sl elN23, Nat.le_refl]
          (repeat' refine And.intro ?_ ?_)
          all_goals first | omega | skip
          all_goals
            refine hf _ (Sem.go (k := 1000) ?_)
            simp (decide := true) only [back_mk, backL_in, backL_row, backL_nil, Nat.zero_add, Nat.reduceAdd]
            simp -dsimp (decide := true) (disch := first | omega | simp (decide := true) only [decp2b0]) only [decp2b1, ↓brun_b, Nat.reduceAdd, Nat.reduceBEq, hwk]
            refine ⟨⟨(k + 1, l ++ [x], q5), hk', by simp [hl], hq5, he⟩, [0, 1, 2, 5], ?_, by show n - (k + 1) < n - k; omega⟩
            have e1 : (l ++ [x]).length = l.length + 1 := by simp
            (refine Wk.ofC ?_; simp -dsimp (decide := true) (disch := first | omega | simp (decide := true) only [decp2b0]) only [decp2b4, ↓brun_b, Nat.reduceAdd, Nat.reduceBEq, e1])
            exact fun e he => app_idrs l x e he
    · simp only [decide_eq_false_iff_not] at h1
      obtain rfl : k = n := by omega
      have he := idsAt_end hat
      have hB : rbody (min 7 99) b q = .ok (fr7 ((x1a, x1b), (x2a, l)), q4) := by show rbody 7 b q = _; simp only [rbody, Rd.map, Rd.both, g1, g2, gl, he]
      have hD := decode_ok h0 hB
      by_cases hlt : q4 < (b.length : Int)
      · have hd : decide (q4 < (b.length : Int)) = true := decide_eq_true hlt
        simp -dsimp (decide := true) (disch := first | omega | simp (decide := true) only [decp2b0]) only [decp2b1, ↓brun_b, reduceIte, Nat.reduceAdd, Nat.reduceBEq, hd]
        exact dec_ret rfl rfl (FC.c_length _) rfl rfl rfl zFrm zF_ent (by rw [hD, if_pos hlt])
      · have hd : decide (q4 < (b.length : Int)) = false := decide_eq_false hlt
        simp -dsimp (decide := true) (disch := first | omega | simp (decide := true) only [decp2b0]) only [decp2b1, ↓brun_b, reduceIte, Nat.reduceAdd, Nat.reduceBEq, hd]
        refine dec_ret rfl rfl (FC.c_length _) rfl rfl rfl _ ?_ (by rw [hD, if_neg hlt])
        unfold fr7 kF zFrm Frm.fc zF
        rw [FC.ent]
        (repeat' apply And.intro) <;> first | exact Ent.self (flat_v _) | exact ent_nil _ | exact Ent.self (bsl_flat _) | exact Ent.self (lsl_flat _) | exact Ent_row rfl rfl (idrs_len l).symm (by omega) fun i r hr => ids_row l i r hr
end Go.Proofs
namespace Go.Proofs
open Go Go.SL
set_option maxRecDepth 100000
set_option maxHeartbeats 4000000 in
theorem dec_1 (b : List UInt8) (hb : b.length ≤ 140737488355328) (q : Int) (h0 : rnum b 0 = .ok (1, q)) : SCall Try.prog 117 [bsl b] [] (DR b) := by
  have hp0 : I64 0 := by unfold I64; omega
  have hq : I64 q := rnum_at.i64 hb h0
  refine dec_head b hb 1 q h0 1 rfl fun c hc => ?_
  cases hc
  refine Sem.go (k := 1000) ?_
  simp -dsimp (decide := true) (disch := first | omega | simp (decide := true) only [decp2b0]) only [decp2b1, ↓brun_b, Nat.reduceAdd, Nat.reduceBEq]
  refine dec_call (pair_takes b q hb hq) cal.f154 rfl rfl rfl (by simp -dsimp (decide := true) (disch := first | omega | simp (decide := true) only [decp2b0]) only [decp2b2, ↓brun_b, Nat.reduceAdd]) (by simp -dsimp (decide := true) (disch := first | omega | simp (decide := true) only [decp2b0]) only [decp2b2, Nat.reduceAdd]) (by simp -dsimp (decide := true) (disch := first | omega | simp (decide := true) only [decp2b0]) only [decp2c1]) rfl rfl (FC.c_length _) rfl rfl rfl ?_ ?_
  · exact fun e g1 => decode_err h0 (by show rbody 1 b q = _; simp only [rbody, Rd.map, Rd.both, g1])
  rintro ⟨x1a, x1b⟩ q1 g1
  have hq1 := rpair_at.i64 hb g1
  refine SemOps.go (k := 1000) ?_
  simp -dsimp (decide := true) (disch := first | omega | simp (decide := true) only [decp2b0]) only [decp2b1, ↓brun_b, Nat.reduceAdd, Nat.reduceBEq]
  refine dec_call (pair_takes b q1 hb hq1) cal.f154 rfl rfl rfl (by simp -dsimp (decide := true) (disch := first | omega | simp (decide := true) only [decp2b0]) only [decp2b2, ↓brun_b, Nat.reduceAdd]) (by simp -dsimp (decide := true) (disch := first | omega | simp (decide := true) only [decp2b0]) only [decp2b2, Nat.reduceAdd]) (by simp -dsimp (decide := true) (disch := first | omega | simp (decide := true) only [decp2b0]) only [decp2c1]) rfl rfl (FC.c_length _) rfl rfl rfl ?_ ?_
  · exact fun e g2 => decode_err h0 (by show rbody 1 b q = _; simp only [rbody, Rd.map, Rd.both, g1, g2])
  rintro ⟨x2a, x2b⟩ q2 g2
  have hq2 := rpair_at.i64 hb g2
  refine SemOps.go (k := 1000) ?_
  simp -dsimp (decide := true) (disch := first | omega | simp (decide := true) only [decp2b0]) only [decp2b1, ↓brun_b, Nat.reduceAdd, Nat.reduceBEq]
  refine dec_call (idI_takes b q2 hb hq2) cal.f155 rfl rfl rfl (by simp -dsimp (decide := true) (disch := first | omega | simp (decide := true) only [decp2b0]) only [decp2b2, ↓brun_b, Nat.reduceAdd]) (by simp -dsimp (decide := true) (disch := first | omega | simp (decide := true) only [decp2b0]) only [decp2b2, Nat.reduceAdd]) (by simp -dsimp (decide := true) (disch := first | omega | simp (decide := true) only [decp2b0]) only [decp2c1]) rfl rfl (FC.c_length _) rfl rfl rfl ?_ ?_
  · exact fun e g3 => decode_err h0 (by show rbody 1 b q = _; simp only [rbody, Rd.map, Rd.both, g1, g2, g3])
  rintro x3a q3 g3
  refine SemOps.go (k := 1000) ?_
  have hB : rbody (min 1 99) b q = .ok (fr1 ((x1a, x1b), ((x2a, x2b), x3a)), q3) := by show rbody 1 b q = _; simp only [rbody, Rd.map, Rd.both, g1, g2, g3]
  have hD := decode_ok h0 hB
  by_cases hlt : q3 < (b.length : Int)
  · have hd : decide (q3 < (b.length : Int)) = true := decide_eq_true hlt
    simp -dsimp (decide := true) (disch := first | omega | simp (decide := true) only [decp2b0]) only [decp2b1, ↓brun_b, Nat.reduceAdd, Nat.reduceBEq, hd]
    exact dec_ret rfl rfl (FC.c_length _) rfl rfl rfl zFrm zF_ent (by rw [hD, if_pos hlt])
  · have hd : decide (q3 < (b.length : Int)) = false := decide_eq_false hlt
    simp -dsimp (decide := true) (disch := first | omega | simp (decide := true) only [decp2b0]) only [decp2b1, ↓brun_b, Nat.reduceAdd, Nat.reduceBEq, hd]
    refine dec_ret rfl rfl (FC.c_length _) rfl rfl rfl _ ?_ (by rw [hD, if_neg hlt])
    unfold fr1 kF zFrm Frm.fc zF
    rw [FC.ent]
    (repeat' apply And.intro) <;> first | exact Ent.self (flat_v _) | exact ent_nil _ | exact Ent.self (bsl_flat _) | exact Ent.self (lsl_flat _)
end Go.Proofs
namespace Go.Proofs
open Go Go.SL
set_option maxRecDepth 100000
set_option maxHeartbeats 4000000 in
theorem dec_2 (b : List UInt8) (hb : b.length ≤ 140737488355328) (q : Int) (h0 : rnum b 0 = .ok (2, q)) : SCall Try.prog 117 [bsl b] [] (DR b) := by
  have hp0 : I64 0 := by unfold I64; omega
  have hq : I64 q := rnum_at.i64 hb h0
  refine dec_head b hb 2 q h0 2 rfl fun c hc => ?_
  cases hc
  refine Sem.go (k := 1000) ?_
  simp -dsimp (decide := true) (disch := first | omega | simp (decide := true) only [decp2b0]) only [decp2b1, ↓brun_b, Nat.reduceAdd, Nat.reduceBEq]
  refine dec_call (pair_takes b q hb hq) cal.f154 rfl rfl rfl (by simp -dsimp (decide := true) (disch := first | omega | simp (decide := true) only [decp2b0]) only [decp2b2, ↓brun_b, Nat.reduceAdd]) (by simp -dsimp (decide := true) (disch := first | omega | simp (decide := true) only [decp2b0]) only [decp2b2, Nat.reduceAdd]) (by simp -dsimp (decide := true) (disch := first | omega | simp (decide := true) only [decp2b0]) only [decp2c1]) rfl rfl (FC.c_length _) rfl rfl rfl ?_ ?_
  · exact fun e g1 => decode_err h0 (by show rbody 2 b q = _; simp only [rbody, Rd.map, Rd.both, g1])
  rintro ⟨x1a, x1b⟩ q1 g1
  have hq1 := rpair_at.i64 hb g1
  refine SemOps.go (k := 1000) ?_
  simp -dsimp (decide := true) (disch := first | omega | simp (decide := true) only [decp2b0]) only [decp2b1, ↓brun_b, Nat.reduceAdd, Nat.reduceBEq]
  refine dec_call (pair_takes b q1 hb hq1) cal.f154 rfl rfl rfl (by simp -dsimp (decide := true) (disch := first | omega | simp (decide := true) only [decp2b0]) only [decp2b2, ↓brun_b, Nat.reduceAdd]) (by simp -dsimp (decide := true) (disch := first | omega | simp (decide := true) only [decp2b0]) only [decp2b2, Nat.reduceAdd]) (by simp -dsimp (decide := true) (disch := first | omega | simp (decide := true) only [decp2b0]) only [decp2c1]) rfl rfl (FC.c_length _) rfl rfl rfl ?_ ?_
  · exact fun e g2 => decode_err h0 (by show rbody 2 b q = _; simp only [rbody, Rd.map, Rd.both, g1, g2])
  rintro ⟨x2a, x2b⟩ q2 g2
  have hq2 := rpair_at.i64 hb g2
  refine SemOps.go (k := 1000) ?_
  simp -dsimp (decide := true) (disch := first | omega | simp (decide := true) only [decp2b0]) only [decp2b1, ↓brun_b, Nat.reduceAdd, Nat.reduceBEq]
  refine dec_call (num_takes b q2 hb hq2) cal.f153 rfl rfl rfl (by simp -dsimp (decide := true) (disch := first | omega | simp (decide := true) only [decp2b0]) only [decp2b2, ↓brun_b, Nat.reduceAdd]) (by simp -dsimp (decide := true) (disch := first | omega | simp (decide := true) only [decp2b0]) only [decp2b2, Nat.reduceAdd]) (by simp -dsimp (decide := true) (disch := first | omega | simp (decide := true) only [decp2b0]) only [decp2c1]) rfl rfl (FC.c_length _) rfl rfl rfl ?_ ?_
  · exact fun e g3 => decode_err h0 (by show rbody 2 b q = _; simp only [rbody, Rd.map, Rd.both, g1, g2, g3])
  rintro x3a q3 g3
  have hq3 := rnum_at.i64 hb g3
  refine SemOps.go (k := 1000) ?_
  simp -dsimp (decide := true) (disch := first | omega | simp (decide := true) only [decp2b0]) only [decp2b1, ↓brun_b, Nat.reduceAdd, Nat.reduceBEq]
  refine dec_call ((text_takes 4096 (by decide)) b q3 hb hq3) cal.f156 rfl rfl rfl (by simp -dsimp (decide := true) (disch := first | omega | simp (decide := true) only [decp2b0]) only [decp2b2, ↓brun_b, Nat.reduceAdd]) (by simp -dsimp (decide := true) (disch := first | omega | simp (decide := true) only [decp2b0]) only [decp2b2, Nat.reduceAdd]) (by simp -dsimp (decide := true) (disch := first | omega | simp (decide := true) only [decp2b0]) only [decp2c1]) rfl rfl (FC.c_length _) rfl rfl rfl ?_ ?_
  · exact fun e g4 => decode_err h0 (by show rbody 2 b q = _; simp only [rbody, Rd.map, Rd.both, g1, g2, g3, g4])
  rintro x4a q4 g4
  refine SemOps.go (k := 1000) ?_
  have hB : rbody (min 2 99) b q = .ok (fr2 ((x1a, x1b), ((x2a, x2b), (x3a, x4a))), q4) := by show rbody 2 b q = _; simp only [rbody, Rd.map, Rd.both, g1, g2, g3, g4]
  have hD := decode_ok h0 hB
  by_cases hlt : q4 < (b.length : Int)
  · have hd : decide (q4 < (b.length : Int)) = true := decide_eq_true hlt
    simp -dsimp (decide := true) (disch := first | omega | simp (decide := true) only [decp2b0]) only [decp2b1, ↓brun_b, Nat.reduceAdd, Nat.reduceBEq, hd]
    exact dec_ret rfl rfl (FC.c_length _) rfl rfl rfl zFrm zF_ent (by rw [hD, if_pos hlt])
  · have hd : decide (q4 < (b.length : Int)) = false := decide_eq_false hlt
    simp -dsimp (decide := true) (disch := first | omega | simp (decide := true) only [decp2b0]) only [decp2b1, ↓brun_b, Nat.reduceAdd, Nat.reduceBEq, hd]
    refine dec_ret rfl rfl (FC.c_length _) rfl rfl rfl _ ?_ (by rw [hD, if_neg hlt])
    unfold fr2 kF zFrm Frm.fc zF
    rw [FC.ent]
    (repeat' apply And.intro) <;> first | exact Ent.self (flat_v _) | exact ent_nil _ | exact Ent.self (bsl_flat _) | exact Ent.self (lsl_flat _)
end Go.Proofs
namespace Go.Proofs
open Go Go.SL
set_option maxRecDepth 100000
set_option maxHeartbeats 4000000 in
theorem dec_3 (b : List UInt8) (hb : b.length ≤ 140737488355328) (q : Int) (h0 : rnum b 0 = .ok (3, q)) : SCall Try.prog 117 [bsl b] [] (DR b) := by
  have hp0 : I64 0 := by unfold I64; omega
  have hq : I64 q := rnum_at.i64 hb h0
  refine dec_head b hb 3 q h0 3 rfl fun c hc => ?_
  cases hc
  refine Sem.go (k := 1000) ?_
  simp -dsimp (decide := true) (disch := first | omega | simp (decide := true) only [decp2b0]) only [decp2b1, ↓brun_b, Nat.reduceAdd, Nat.reduceBEq]
  refine dec_call (pair_takes b q hb hq) cal.f154 rfl rfl rfl (by simp -dsimp (decide := true) (disch := first | omega | simp (decide := true) only [decp2b0]) only [decp2b2, ↓brun_b, Nat.reduceAdd]) (by simp -dsimp (decide := true) (disch := first | omega | simp (decide := true) only [decp2b0]) only [decp2b2, Nat.reduceAdd]) (by simp -dsimp (decide := true) (disch := first | omega | simp (decide := true) only [decp2b0]) only [decp2c1]) rfl rfl (FC.c_length _) rfl rfl rfl ?_ ?_
  · exact fun e g1 => decode_err h0 (by show rbody 3 b q = _; simp only [rbody, Rd.map, Rd.both, g1])
  rintro ⟨x1a, x1b⟩ q1 g1
  have hq1 := rpair_at.i64 hb g1
  refine SemOps.go (k := 1000) ?_
  simp -dsimp (decide := true) (disch := first | omega | simp (decide := true) only [decp2b0]) only [decp2b1, ↓brun_b, Nat.reduceAdd, Nat.reduceBEq]
  refine dec_call (pair_takes b q1 hb hq1) cal.f154 rfl rfl rfl (by simp -dsimp (decide := true) (disch := first | omega | simp (decide := true) only [decp2b0]) only [decp2b2, ↓brun_b, Nat.reduceAdd]) (by simp -dsimp (decide := true) (disch := first | omega | simp (decide := true) only [decp2b0]) only [decp2b2, Nat.reduceAdd]) (by simp -dsimp (decide := true) (disch := first | omega | simp (decide := true) only [decp2b0]) only [decp2c1]) rfl rfl (FC.c_length _) rfl rfl rfl ?_ ?_
  · exact fun e g2 => decode_err h0 (by show rbody 3 b q = _; simp only [rbody, Rd.map, Rd.both, g1, g2])
  rintro ⟨x2a, x2b⟩ q2 g2
  have hq2 := rpair_at.i64 hb g2
  refine SemOps.go (k := 1000) ?_
  simp -dsimp (decide := true) (disch := first | omega | simp (decide := true) only [decp2b0]) only [decp2b1, ↓brun_b, Nat.reduceAdd, Nat.reduceBEq]
  refine dec_call (num_takes b q2 hb hq2) cal.f153 rfl rfl rfl (by simp -dsimp (decide := true) (disch := first | omega | simp (decide := true) only [decp2b0]) only [decp2b2, ↓brun_b, Nat.reduceAdd]) (by simp -dsimp (decide := true) (disch := first | omega | simp (decide := true) only [decp2b0]) only [decp2b2, Nat.reduceAdd]) (by simp -dsimp (decide := true) (disch := first | omega | simp (decide := true) only [decp2b0]) only [decp2c1]) rfl rfl (FC.c_length _) rfl rfl rfl ?_ ?_
  · exact fun e g3 => decode_err h0 (by show rbody 3 b q = _; simp only [rbody, Rd.map, Rd.both, g1, g2, g3])
  rintro x3a q3 g3
  refine SemOps.go (k := 1000) ?_
  have hB : rbody (min 3 99) b q = .ok (fr3 ((x1a, x1b), ((x2a, x2b), x3a)), q3) := by show rbody 3 b q = _; simp only [rbody, Rd.map, Rd.both, g1, g2, g3]
  have hD := decode_ok h0 hB
  by_cases hlt : q3 < (b.length : Int)
  · have hd : decide (q3 < (b.length : Int)) = true := decide_eq_true hlt
    simp -dsimp (decide := true) (disch := first | omega | simp (decide := true) only [decp2b0]) only [decp2b1, ↓brun_b, Nat.reduceAdd, Nat.reduceBEq, hd]
    exact dec_ret rfl rfl (FC.c_length _) rfl rfl rfl zFrm zF_ent (by rw [hD, if_pos hlt])
  · have hd : decide (q3 < (b.length : Int)) = false := decide_eq_false hlt
    simp -dsimp (decide := true) (disch := first | omega | simp (decide := true) only [decp2b0]) only [decp2b1, ↓brun_b, Nat.reduceAdd, Nat.reduceBEq, hd]
    refine dec_ret rfl rfl (FC.c_length _) rfl rfl rfl _ ?_ (by rw [hD, if_neg hlt])
    unfold fr3 kF zFrm Frm.fc zF
    rw [FC.ent]
    (repeat' apply And.intro) <;> first | exact Ent.self (flat_v _) | exact ent_nil _ | exact Ent.self (bsl_flat _) | exact Ent.self (lsl_flat _)
end Go.Proofs
namespace Go.Proofs
open Go Go.SL
set_option maxRecDepth 100000
set_option maxHeartbeats 4000000 in
theorem dec_4 (b : List UInt8) (hb : b.length ≤ 140737488355328) (q : Int) (h0 : rnum b 0 = .ok (4, q)) : SCall Try.prog 117 [bsl b] [] (DR b) := by
  have hp0 : I64 0 := by unfold I64; omega
  have hq : I64 q := rnum_at.i64 hb h0
  refine dec_head b hb 4 q h0 4 rfl fun c hc => ?_
  cases hc
  refine Sem.go (k := 1000) ?_
  simp -dsimp (decide := true) (disch := first | omega | simp (decide := true) only [decp2b0]) only [decp2b1, ↓brun_b, Nat.reduceAdd, Nat.reduceBEq]
  refine dec_call (path_takes b q hb hq) cal.f157 rfl rfl rfl (by simp -dsimp (decide := true) (disch := first | omega | simp (decide := true) only [decp2b0]) only [decp2b2, ↓brun_b, Nat.reduceAdd]) (by simp -dsimp (decide := true) (disch := first | omega | simp (decide := true) only [decp2b0]) only [decp2b2, Nat.reduceAdd]) (by simp -dsimp (decide := true) (disch := first | omega | simp (decide := true) only [decp2b0]) only [decp2c1]) rfl rfl (FC.c_length _) rfl rfl rfl ?_ ?_
  · exact fun e g1 => decode_err h0 (by show rbody 4 b q = _; simp only [rbody, Rd.map, Rd.both, g1])
  rintro ⟨x1a, x1b⟩ q1 g1
  have hq1 := rpath_at.i64 hb g1
  refine SemOps.go (k := 1000) ?_
  simp -dsimp (decide := true) (disch := first | omega | simp (decide := true) only [decp2b0]) only [decp2b1, ↓brun_b, Nat.reduceAdd, Nat.reduceBEq]
  refine dec_call (idI_takes b q1 hb hq1) cal.f155 rfl rfl rfl (by simp -dsimp (decide := true) (disch := first | omega | simp (decide := true) only [decp2b0]) only [decp2b2, ↓brun_b, Nat.reduceAdd]) (by simp -dsimp (decide := true) (disch := first | omega | simp (decide := true) only [decp2b0]) only [decp2b2, Nat.reduceAdd]) (by simp -dsimp (decide := true) (disch := first | omega | simp (decide := true) only [decp2b0]) only [decp2c1]) rfl rfl (FC.c_length _) rfl rfl rfl ?_ ?_
  · exact fun e g2 => decode_err h0 (by show rbody 4 b q = _; simp only [rbody, Rd.map, Rd.both, g1, g2])
  rintro x2a q2 g2
  have hq2 := ridI_at.i64 hb g2
  refine SemOps.go (k := 1000) ?_
  simp -dsimp (decide := true) (disch := first | omega | simp (decide := true) only [decp2b0]) only [decp2b1, ↓brun_b, Nat.reduceAdd, Nat.reduceBEq]
  refine dec_call (idI_takes b q2 hb hq2) cal.f155 rfl rfl rfl (by simp -dsimp (decide := true) (disch := first | omega | simp (decide := true) only [decp2b0]) only [decp2b2, ↓brun_b, Nat.reduceAdd]) (by simp -dsimp (decide := true) (disch := first | omega | simp (decide := true) only [decp2b0]) only [decp2b2, Nat.reduceAdd]) (by simp -dsimp (decide := true) (disch := first | omega | simp (decide := true) only [decp2b0]) only [decp2c1]) rfl rfl (FC.c_length _) rfl rfl rfl ?_ ?_
  · exact fun e g3 => decode_err h0 (by show rbody 4 b q = _; simp only [rbody, Rd.map, Rd.both, g1, g2, g3])
  rintro x3a q3 g3
  have hq3 := ridI_at.i64 hb g3
  refine SemOps.go (k := 1000) ?_
  simp -dsimp (decide := true) (disch := first | omega | simp (decide := true) only [decp2b0]) only [decp2b1, ↓brun_b, Nat.reduceAdd, Nat.reduceBEq]
  refine dec_call (trail_takes b q3 hb hq3) cal.f158 rfl rfl rfl (by simp -dsimp (decide := true) (disch := first | omega | simp (decide := true) only [decp2b0]) only [decp2b2, ↓brun_b, Nat.reduceAdd]) (by simp -dsimp (decide := true) (disch := first | omega | simp (decide := true) only [decp2b0]) only [decp2b2, Nat.reduceAdd]) (by simp -dsimp (decide := true) (disch := first | omega | simp (decide := true) only [decp2b0]) only [decp2c1]) rfl rfl (FC.c_length _) rfl rfl rfl ?_ ?_
  · exact fun e g4 => decode_err h0 (by show rbody 4 b q = _; simp only [rbody, Rd.map, Rd.both, g1, g2, g3, g4])
  rintro x4a q4 g4
  refine SemOps.go (k := 1000) ?_
  have hB : rbody (min 4 99) b q = .ok (fr4 ((x1a, x1b), (x2a, (x3a, x4a))), q4) := by show rbody 4 b q = _; simp only [rbody, Rd.map, Rd.both, g1, g2, g3, g4]
  have hD := decode_ok h0 hB
  by_cases hlt : q4 < (b.length : Int)
  · have hd : decide (q4 < (b.length : Int)) = true := decide_eq_true hlt
    simp -dsimp (decide := true) (disch := first | omega | simp (decide := true) only [decp2b0]) only [decp2b1, ↓brun_b, Nat.reduceAdd, Nat.reduceBEq, hd]
    exact dec_ret rfl rfl (FC.c_length _) rfl rfl rfl zFrm zF_ent (by rw [hD, if_pos hlt])
  · have hd : decide (q4 < (b.length : Int)) = false := decide_eq_false hlt
    simp -dsimp (decide := true) (disch := first | omega | simp (decide := true) only [decp2b0]) only [decp2b1, ↓brun_b, Nat.reduceAdd, Nat.reduceBEq, hd]
    refine dec_ret rfl rfl (FC.c_length _) rfl rfl rfl _ ?_ (by rw [hD, if_neg hlt])
    unfold fr4 kF zFrm Frm.fc zF
    rw [FC.ent]
    (repeat' apply And.intro) <;> first | exact Ent.self (flat_v _) | exact ent_nil _ | exact Ent.self (bsl_flat _) | exact Ent.self (lsl_flat _)
end Go.Proofs
namespace Go.Proofs
open Go Go.SL
set_option maxRecDepth 100000
set_option maxHeartbeats 4000000 in
theorem dec_5 (b : List UInt8) (hb : b.length ≤ 140737488355328) (q : Int) (h0 : rnum b 0 = .ok (5, q)) : SCall Try.prog 117 [bsl b] [] (DR b) := by
  have hp0 : I64 0 := by unfold I64; omega
  have hq : I64 q := rnum_at.i64 hb h0
  refine dec_head b hb 5 q h0 5 rfl fun c hc => ?_
  cases hc
  refine Sem.go (k := 1000) ?_
  simp -dsimp (decide := true) (disch := first | omega | simp (decide := true) only [decp2b0]) only [decp2b1, ↓brun_b, Nat.reduceAdd, Nat.reduceBEq]
  refine dec_call (path_takes b q hb hq) cal.f157 rfl rfl rfl (by simp -dsimp (decide := true) (disch := first | omega | simp (decide := true) only [decp2b0]) only [decp2b2, ↓brun_b, Nat.reduceAdd]) (by simp -dsimp (decide := true) (disch := first | omega | simp (decide := true) only [decp2b0]) only [decp2b2, Nat.reduceAdd]) (by simp -dsimp (decide := true) (disch := first | omega | simp (decide := true) only [decp2b0]) only [decp2c1]) rfl rfl (FC.c_length _) rfl rfl rfl ?_ ?_
  · exact fun e g1 => decode_err h0 (by show rbody 5 b q = _; simp only [rbody, Rd.map, g1])
  rintro ⟨x1a, x1b⟩ q1 g1
  refine SemOps.go (k := 1000) ?_
  have hB : rbody (min 5 99) b q = .ok (fr5 (x1a, x1b), q1) := by show rbody 5 b q = _; simp only [rbody, Rd.map, g1]
  have hD := decode_ok h0 hB
  by_cases hlt : q1 < (b.length : Int)
  · have hd : decide (q1 < (b.length : Int)) = true := decide_eq_true hlt
    simp -dsimp (decide := true) (disch := first | omega | simp (decide := true) only [decp2b0]) only [decp2b1, ↓brun_b, Nat.reduceAdd, Nat.reduceBEq, hd]
    exact dec_ret rfl rfl (FC.c_length _) rfl rfl rfl zFrm zF_ent (by rw [hD, if_pos hlt])
  · have hd : decide (q1 < (b.length : Int)) = false := decide_eq_false hlt
    simp -dsimp (decide := true) (disch := first | omega | simp (decide := true) only [decp2b0]) only [decp2b1, ↓brun_b, Nat.reduceAdd, Nat.reduceBEq, hd]
    refine dec_ret rfl rfl (FC.c_length _) rfl rfl rfl _ ?_ (by rw [hD, if_neg hlt])
    unfold fr5 kF zFrm Frm.fc zF
    rw [FC.ent]
    (repeat' apply And.intro) <;> first | exact Ent.self (flat_v _) | exact ent_nil _ | exact Ent.self (bsl_flat _) | exact Ent.self (lsl_flat _)
end Go.Proofs
namespace Go.Proofs
open Go Go.SL
set_option maxRecDepth 100000
set_option maxHeartbeats 4000000 in
theorem dec_6 (b : List UInt8) (hb : b.length ≤ 140737488355328) (q : Int) (h0 : rnum b 0 = .ok (6, q)) : SCall Try.prog 117 [bsl b] [] (DR b) := by
  have hp0 : I64 0 := by unfold I64; omega
  have hq : I64 q := rnum_at.i64 hb h0
  refine dec_head b hb 6 q h0 6 rfl fun c hc => ?_
  cases hc
  refine Sem.go (k := 1000) ?_
  simp -dsimp (decide := true) (disch := first | omega | simp (decide := true) only [decp2b0]) only [decp2b1, ↓brun_b, Nat.reduceAdd, Nat.reduceBEq]
  refine dec_call (path_takes b q hb hq) cal.f157 rfl rfl rfl (by simp -dsimp (decide := true) (disch := first | omega | simp (decide := true) only [decp2b0]) only [decp2b2, ↓brun_b, Nat.reduceAdd]) (by simp -dsimp (decide := true) (disch := first | omega | simp (decide := true) only [decp2b0]) only [decp2b2, Nat.reduceAdd]) (by simp -dsimp (decide := true) (disch := first | omega | simp (decide := true) only [decp2b0]) only [decp2c1]) rfl rfl (FC.c_length _) rfl rfl rfl ?_ ?_
  · exact fun e g1 => decode_err h0 (by show rbody 6 b q = _; simp only [rbody, Rd.map, Rd.both, g1])
  rintro ⟨x1a, x1b⟩ q1 g1
  have hq1 := rpath_at.i64 hb g1
  refine SemOps.go (k := 1000) ?_
  simp -dsimp (decide := true) (disch := first | omega | simp (decide := true) only [decp2b0]) only [decp2b1, ↓brun_b, Nat.reduceAdd, Nat.reduceBEq]
  refine dec_call (flag_takes b q1 hb hq1) cal.f159 rfl rfl rfl (by simp -dsimp (decide := true) (disch := first | omega | simp (decide := true) only [decp2b0]) only [decp2b2, ↓brun_b, Nat.reduceAdd]) (by simp -dsimp (decide := true) (disch := first | omega | simp (decide := true) only [decp2b0]) only [decp2b2, Nat.reduceAdd]) (by simp -dsimp (decide := true) (disch := first | omega | simp (decide := true) only [decp2b0]) only [decp2c1]) rfl rfl (FC.c_length _) rfl rfl rfl ?_ ?_
  · exact fun e g2 => decode_err h0 (by show rbody 6 b q = _; simp only [rbody, Rd.map, Rd.both, g1, g2])
  rintro x2a q2 g2
  refine SemOps.go (k := 1000) ?_
  have hB : rbody (min 6 99) b q = .ok (fr6 ((x1a, x1b), x2a), q2) := by show rbody 6 b q = _; simp only [rbody, Rd.map, Rd.both, g1, g2]
  have hD := decode_ok h0 hB
  by_cases hlt : q2 < (b.length : Int)
  · have hd : decide (q2 < (b.length : Int)) = true := decide_eq_true hlt
    simp -dsimp (decide := true) (disch := first | omega | simp (decide := true) only [decp2b0]) only [decp2b1, ↓brun_b, Nat.reduceAdd, Nat.reduceBEq, hd]
    exact dec_ret rfl rfl (FC.c_length _) rfl rfl rfl zFrm zF_ent (by rw [hD, if_pos hlt])
  · have hd : decide (q2 < (b.length : Int)) = false := decide_eq_false hlt
    simp -dsimp (decide := true) (disch := first | omega | simp (decide := true) only [decp2b0]) only [decp2b1, ↓brun_b, Nat.reduceAdd, Nat.reduceBEq, hd]
    refine dec_ret rfl rfl (FC.c_length _) rfl rfl rfl _ ?_ (by rw [hD, if_neg hlt])
    unfold fr6 kF zFrm Frm.fc zF
    rw [FC.ent]
    (repeat' apply And.intro) <;> first | exact Ent.self (flat_v _) | exact ent_nil _ | exact Ent.self (bsl_flat _) | exact Ent.self (lsl_flat _)
end Go.Proofs
namespace Go.Proofs
open Go Go.SL
set_option maxRecDepth 100000
set_option maxHeartbeats 4000000 in
theorem dec_8 (b : List UInt8) (hb : b.length ≤ 140737488355328) (q : Int) (h0 : rnum b 0 = .ok (8, q)) : SCall Try.prog 117 [bsl b] [] (DR b) := by
  have hp0 : I64 0 := by unfold I64; omega
  have hq : I64 q := rnum_at.i64 hb h0
  refine dec_head b hb 8 q h0 8 rfl fun c hc => ?_
  cases hc
  refine Sem.go (k := 1000) ?_
  simp -dsimp (decide := true) (disch := first | omega | simp (decide := true) only [decp2b0]) only [decp2b1, ↓brun_b, Nat.reduceAdd, Nat.reduceBEq]
  refine dec_call (idI_takes b q hb hq) cal.f155 rfl rfl rfl (by simp -dsimp (decide := true) (disch := first | omega | simp (decide := true) only [decp2b0]) only [decp2b2, ↓brun_b, Nat.reduceAdd]) (by simp -dsimp (decide := true) (disch := first | omega | simp (decide := true) only [decp2b0]) only [decp2b2, Nat.reduceAdd]) (by simp -dsimp (decide := true) (disch := first | omega | simp (decide := true) only [decp2b0]) only [decp2c1]) rfl rfl (FC.c_length _) rfl rfl rfl ?_ ?_
  · exact fun e g1 => decode_err h0 (by show rbody 8 b q = _; simp only [rbody, Rd.map, Rd.both, g1])
  rintro x1a q1 g1
  have hq1 := ridI_at.i64 hb g1
  refine SemOps.go (k := 1000) ?_
  simp -dsimp (decide := true) (disch := first | omega | simp (decide := true) only [decp2b0]) only [decp2b1, ↓brun_b, Nat.reduceAdd, Nat.reduceBEq]
  refine dec_call (idI_takes b q1 hb hq1) cal.f155 rfl rfl rfl (by simp -dsimp (decide := true) (disch := first | omega | simp (decide := true) only [decp2b0]) only [decp2b2, ↓brun_b, Nat.reduceAdd]) (by simp -dsimp (decide := true) (disch := first | omega | simp (decide := true) only [decp2b0]) only [decp2b2, Nat.reduceAdd]) (by simp -dsimp (decide := true) (disch := first | omega | simp (decide := true) only [decp2b0]) only [decp2c1]) rfl rfl (FC.c_length _) rfl rfl rfl ?_ ?_
  · exact fun e g2 => decode_err h0 (by show rbody 8 b q = _; simp only [rbody, Rd.map, Rd.both, g1, g2])
  rintro x2a q2 g2
  have hq2 := ridI_at.i64 hb g2
  refine SemOps.go (k := 1000) ?_
  simp -dsimp (decide := true) (disch := first | omega | simp (decide := true) only [decp2b0]) only [decp2b1, ↓brun_b, Nat.reduceAdd, Nat.reduceBEq]
  refine dec_call (num_takes b q2 hb hq2) cal.f153 rfl rfl rfl (by simp -dsimp (decide := true) (disch := first | omega | simp (decide := true) only [decp2b0]) only [decp2b2, ↓brun_b, Nat.reduceAdd]) (by simp -dsimp (decide := true) (disch := first | omega | simp (decide := true) only [decp2b0]) only [decp2b2, Nat.reduceAdd]) (by simp -dsimp (decide := true) (disch := first | omega | simp (decide := true) only [decp2b0]) only [decp2c1]) rfl rfl (FC.c_length _) rfl rfl rfl ?_ ?_
  · exact fun e g3 => decode_err h0 (by show rbody 8 b q = _; simp only [rbody, Rd.map, Rd.both, g1, g2, (show rsmall 0 3 2 b q2 = .error e by unfold rsmall; rw [Rd.bind_err g3])])
  rintro x3a q3 g3
  have hq3 := rnum_at.i64 hb g3
  refine SemOps.go (k := 1000) ?_
  have hmin : min (x3a : Int) 99 = ((min x3a 99 : Nat) : Int) := by omega
  have hmin2 : (if (99 : Int) < (x3a : Int) then (99 : Int) else (x3a : Int)) = ((min x3a 99 : Nat) : Int) := by split <;> omega
  by_cases hs : min x3a 99 < 0 ∨ 3 < min x3a 99
  · have hd : decide ((3 : Int) < ((min x3a 99 : Nat) : Int)) = true := decide_eq_true (by omega)
    simp -dsimp (decide := true) (disch := first | omega | simp (decide := true) only [decp2b0]) only [decp2b1, ↓brun_b, Nat.reduceAdd, Nat.reduceBEq, hmin2, hd]
    refine SemOps.panic rfl rfl rfl ?_
    exact dec_pan rfl rfl (FC.c_length _) rfl rfl rfl (decode_err h0 (by show rbody 8 b q = _; simp only [rbody, Rd.map, Rd.both, g1, g2, (show rsmall 0 3 2 b q2 = .error 2 by unfold rsmall; rw [Rd.bind_ok g3, if_pos hs]; rfl)]))
  have hd : decide ((3 : Int) < ((min x3a 99 : Nat) : Int)) = false := decide_eq_false (by omega)
  simp -dsimp (decide := true) (disch := first | omega | simp (decide := true) only [decp2b0]) only [decp2b1, ↓brun_b, Nat.reduceAdd, Nat.reduceBEq, hmin2, hd]
  have s3 : rsmall 0 3 2 b q2 = .ok (min x3a 99, q3) := by unfold rsmall; rw [Rd.bind_ok g3, if_neg hs]; rfl
  clear hmin hmin2 hd
  refine dec_call (path_takes b q3 hb hq3) cal.f157 rfl rfl rfl (by simp -dsimp (decide := true) (disch := first | omega | simp (decide := true) only [decp2b0]) only [decp2b2, ↓brun_b, Nat.reduceAdd]) (by simp -dsimp (decide := true) (disch := first | omega | simp (decide := true) only [decp2b0]) only [decp2b2, Nat.reduceAdd]) (by simp -dsimp (decide := true) (disch := first | omega | simp (decide := true) only [decp2b0]) only [decp2c1]) rfl rfl (FC.c_length _) rfl rfl rfl ?_ ?_
  · exact fun e g4 => decode_err h0 (by show rbody 8 b q = _; simp only [rbody, Rd.map, Rd.both, g1, g2, s3, g4])
  rintro ⟨x4a, x4b⟩ q4 g4
  have hq4 := rpath_at.i64 hb g4
  refine SemOps.go (k := 1000) ?_
  simp -dsimp (decide := true) (disch := first | omega | simp (decide := true) only [decp2b0]) only [decp2b1, ↓brun_b, Nat.reduceAdd, Nat.reduceBEq]
  refine dec_call (flag_takes b q4 hb hq4) cal.f159 rfl rfl rfl (by simp -dsimp (decide := true) (disch := first | omega | simp (decide := true) only [decp2b0]) only [decp2b2, ↓brun_b, Nat.reduceAdd]) (by simp -dsimp (decide := true) (disch := first | omega | simp (decide := true) only [decp2b0]) only [decp2b2, Nat.reduceAdd]) (by simp -dsimp (decide := true) (disch := first | omega | simp (decide := true) only [decp2b0]) only [decp2c1]) rfl rfl (FC.c_length _) rfl rfl rfl ?_ ?_
  · exact fun e g5 => decode_err h0 (by show rbody 8 b q = _; simp only [rbody, Rd.map, Rd.both, g1, g2, s3, g4, g5])
  rintro x5a q5 g5
  have hq5 := rflag_at.i64 hb g5
  refine SemOps.go (k := 1000) ?_
  simp -dsimp (decide := true) (disch := first | omega | simp (decide := true) only [decp2b0]) only [decp2b1, ↓brun_b, Nat.reduceAdd, Nat.reduceBEq]
  refine dec_call (trail_takes b q5 hb hq5) cal.f158 rfl rfl rfl (by simp -dsimp (decide := true) (disch := first | omega | simp (decide := true) only [decp2b0]) only [decp2b2, ↓brun_b, Nat.reduceAdd]) (by simp -dsimp (decide := true) (disch := first | omega | simp (decide := true) only [decp2b0]) only [decp2b2, Nat.reduceAdd]) (by simp -dsimp (decide := true) (disch := first | omega | simp (decide := true) only [decp2b0]) only [decp2c1]) rfl rfl (FC.c_length _) rfl rfl rfl ?_ ?_
  · exact fun e g6 => decode_err h0 (by show rbody 8 b q = _; simp only [rbody, Rd.map, Rd.both, g1, g2, s3, g4, g5, g6])
  rintro x6a q6 g6
  refine SemOps.go (k := 1000) ?_
  have hB : rbody (min 8 99) b q = .ok (fr8 (x1a, (x2a, (min x3a 99, ((x4a, x4b), (x5a, x6a))))), q6) := by show rbody 8 b q = _; simp only [rbody, Rd.map, Rd.both, g1, g2, s3, g4, g5, g6]
  have hD := decode_ok h0 hB
  by_cases hlt : q6 < (b.length : Int)
  · have hd : decide (q6 < (b.length : Int)) = true := decide_eq_true hlt
    simp -dsimp (decide := true) (disch := first | omega | simp (decide := true) only [decp2b0]) only [decp2b1, ↓brun_b, Nat.reduceAdd, Nat.reduceBEq, hd]
    exact dec_ret rfl rfl (FC.c_length _) rfl rfl rfl zFrm zF_ent (by rw [hD, if_pos hlt])
  · have hd : decide (q6 < (b.length : Int)) = false := decide_eq_false hlt
    simp -dsimp (decide := true) (disch := first | omega | simp (decide := true) only [decp2b0]) only [decp2b1, ↓brun_b, Nat.reduceAdd, Nat.reduceBEq, hd]
    refine dec_ret rfl rfl (FC.c_length _) rfl rfl rfl _ ?_ (by rw [hD, if_neg hlt])
    unfold fr8 kF zFrm Frm.fc zF
    rw [FC.ent]
    (repeat' apply And.intro) <;> first | exact Ent.self (flat_v _) | exact ent_nil _ | exact Ent.self (bsl_flat _) | exact Ent.self (lsl_flat _)
end Go.Proofs
namespace Go.Proofs
open Go Go.SL
set_option maxRecDepth 100000
set_option maxHeartbeats 4000000 in
theorem dec_9 (b : List UInt8) (hb : b.length ≤ 140737488355328) (q : Int) (h0 : rnum b 0 = .ok (9, q)) : SCall Try.prog 117 [bsl b] [] (DR b) := by
  have hp0 : I64 0 := by unfold I64; omega
  have hq : I64 q := rnum_at.i64 hb h0
  refine dec_head b hb 9 q h0 9 rfl fun c hc => ?_
  cases hc
  refine Sem.go (k := 1000) ?_
  simp -dsimp (decide := true) (disch := first | omega | simp (decide := true) only [decp2b0]) only [decp2b1, ↓brun_b, Nat.reduceAdd, Nat.reduceBEq]
  refine dec_call (idI_takes b q hb hq) cal.f155 rfl rfl rfl (by simp -dsimp (decide := true) (disch := first | omega | simp (decide := true) only [decp2b0]) only [decp2b2, ↓brun_b, Nat.reduceAdd]) (by simp -dsimp (decide := true) (disch := first | omega | simp (decide := true) only [decp2b0]) only [decp2b2, Nat.reduceAdd]) (by simp -dsimp (decide := true) (disch := first | omega | simp (decide := true) only [decp2b0]) only [decp2c1]) rfl rfl (FC.c_length _) rfl rfl rfl ?_ ?_
  · exact fun e g1 => decode_err h0 (by show rbody 9 b q = _; simp only [rbody, Rd.map, Rd.both, g1])
  rintro x1a q1 g1
  have hq1 := ridI_at.i64 hb g1
  refine SemOps.go (k := 1000) ?_
  simp -dsimp (decide := true) (disch := first | omega | simp (decide := true) only [decp2b0]) only [decp2b1, ↓brun_b, Nat.reduceAdd, Nat.reduceBEq]
  refine dec_call (num_takes b q1 hb hq1) cal.f153 rfl rfl rfl (by simp -dsimp (decide := true) (disch := first | omega | simp (decide := true) only [decp2b0]) only [decp2b2, ↓brun_b, Nat.reduceAdd]) (by simp -dsimp (decide := true) (disch := first | omega | simp (decide := true) only [decp2b0]) only [decp2b2, Nat.reduceAdd]) (by simp -dsimp (decide := true) (disch := first | omega | simp (decide := true) only [decp2b0]) only [decp2c1]) rfl rfl (FC.c_length _) rfl rfl rfl ?_ ?_
  · exact fun e g2 => decode_err h0 (by show rbody 9 b q = _; simp only [rbody, Rd.map, Rd.both, g1, g2])
  rintro x2a q2 g2
  refine SemOps.go (k := 1000) ?_
  have hB : rbody (min 9 99) b q = .ok (fr9 (x1a, x2a), q2) := by show rbody 9 b q = _; simp only [rbody, Rd.map, Rd.both, g1, g2]
  have hD := decode_ok h0 hB
  by_cases hlt : q2 < (b.length : Int)
  · have hd : decide (q2 < (b.length : Int)) = true := decide_eq_true hlt
    simp -dsimp (decide := true) (disch := first | omega | simp (decide := true) only [decp2b0]) only [decp2b1, ↓brun_b, Nat.reduceAdd, Nat.reduceBEq, hd]
    exact dec_ret rfl rfl (FC.c_length _) rfl rfl rfl zFrm zF_ent (by rw [hD, if_pos hlt])
  · have hd : decide (q2 < (b.length : Int)) = false := decide_eq_false hlt
    simp -dsimp (decide := true) (disch := first | omega | simp (decide := true) only [decp2b0]) only [decp2b1, ↓brun_b, Nat.reduceAdd, Nat.reduceBEq, hd]
    refine dec_ret rfl rfl (FC.c_length _) rfl rfl rfl _ ?_ (by rw [hD, if_neg hlt])
    unfold fr9 kF zFrm Frm.fc zF
    rw [FC.ent]
    (repeat' apply And.intro) <;> first | exact Ent.self (flat_v _) | exact ent_nil _ | exact Ent.self (bsl_flat _) | exact Ent.self (lsl_flat _)
end Go.Proofs
namespace Go.Proofs
open Go Go.SL
set_option maxRecDepth 100000
set_option maxHeartbeats 4000000 in
theorem dec_10 (b : List UInt8) (hb : b.length ≤ 140737488355328) (q : Int) (h0 : rnum b 0 = .ok (10, q)) : SCall Try.prog 117 [bsl b] [] (DR b) := by
  have hp0 : I64 0 := by unfold I64; omega
  have hq : I64 q := rnum_at.i64 hb h0
  refine dec_head b hb 10 q h0 10 rfl fun c hc => ?_
  cases hc
  refine Sem.go (k := 1000) ?_
  simp -dsimp (decide := true) (disch := first | omega | simp (decide := true) only [decp2b0]) only [decp2b1, ↓brun_b, Nat.reduceAdd, Nat.reduceBEq]
  refine dec_call (idI_takes b q hb hq) cal.f155 rfl rfl rfl (by simp -dsimp (decide := true) (disch := first | omega | simp (decide := true) only [decp2b0]) only [decp2b2, ↓brun_b, Nat.reduceAdd]) (by simp -dsimp (decide := true) (disch := first | omega | simp (decide := true) only [decp2b0]) only [decp2b2, Nat.reduceAdd]) (by simp -dsimp (decide := true) (disch := first | omega | simp (decide := true) only [decp2b0]) only [decp2c1]) rfl rfl (FC.c_length _) rfl rfl rfl ?_ ?_
  · exact fun e g1 => decode_err h0 (by show rbody 10 b q = _; simp only [rbody, Rd.map, Rd.both, g1])
  rintro x1a q1 g1
  have hq1 := ridI_at.i64 hb g1
  refine SemOps.go (k := 1000) ?_
  simp -dsimp (decide := true) (disch := first | omega | simp (decide := true) only [decp2b0]) only [decp2b1, ↓brun_b, Nat.reduceAdd, Nat.reduceBEq]
  refine dec_call (idI_takes b q1 hb hq1) cal.f155 rfl rfl rfl (by simp -dsimp (decide := true) (disch := first | omega | simp (decide := true) only [decp2b0]) only [decp2b2, ↓brun_b, Nat.reduceAdd]) (by simp -dsimp (decide := true) (disch := first | omega | simp (decide := true) only [decp2b0]) only [decp2b2, Nat.reduceAdd]) (by simp -dsimp (decide := true) (disch := first | omega | simp (decide := true) only [decp2b0]) only [decp2c1]) rfl rfl (FC.c_length _) rfl rfl rfl ?_ ?_
  · exact fun e g2 => decode_err h0 (by show rbody 10 b q = _; simp only [rbody, Rd.map, Rd.both, g1, g2])
  rintro x2a q2 g2
  have hq2 := ridI_at.i64 hb g2
  refine SemOps.go (k := 1000) ?_
  simp -dsimp (decide := true) (disch := first | omega | simp (decide := true) only [decp2b0]) only [decp2b1, ↓brun_b, Nat.reduceAdd, Nat.reduceBEq]
  refine dec_call (num_takes b q2 hb hq2) cal.f153 rfl rfl rfl (by simp -dsimp (decide := true) (disch := first | omega | simp (decide := true) only [decp2b0]) only [decp2b2, ↓brun_b, Nat.reduceAdd]) (by simp -dsimp (decide := true) (disch := first | omega | simp (decide := true) only [decp2b0]) only [decp2b2, Nat.reduceAdd]) (by simp -dsimp (decide := true) (disch := first | omega | simp (decide := true) only [decp2b0]) only [decp2c1]) rfl rfl (FC.c_length _) rfl rfl rfl ?_ ?_
  · exact fun e g3 => decode_err h0 (by show rbody 10 b q = _; simp only [rbody, Rd.map, Rd.both, g1, g2, g3])
  rintro x3a q3 g3
  have hq3 := rnum_at.i64 hb g3
  refine SemOps.go (k := 1000) ?_
  simp -dsimp (decide := true) (disch := first | omega | simp (decide := true) only [decp2b0]) only [decp2b1, ↓brun_b, Nat.reduceAdd, Nat.reduceBEq]
  refine dec_call (num_takes b q3 hb hq3) cal.f153 rfl rfl rfl (by simp -dsimp (decide := true) (disch := first | omega | simp (decide := true) only [decp2b0]) only [decp2b2, ↓brun_b, Nat.reduceAdd]) (by simp -dsimp (decide := true) (disch := first | omega | simp (decide := true) only [decp2b0]) only [decp2b2, Nat.reduceAdd]) (by simp -dsimp (decide := true) (disch := first | omega | simp (decide := true) only [decp2b0]) only [decp2c1]) rfl rfl (FC.c_length _) rfl rfl rfl ?_ ?_
  · exact fun e g4 => decode_err h0 (by show rbody 10 b q = _; simp only [rbody, Rd.map, Rd.both, g1, g2, g3, (show rsmall 1 4 2 b q3 = .error e by unfold rsmall; rw [Rd.bind_err g4])])
  rintro x4a q4 g4
  have hq4 := rnum_at.i64 hb g4
  refine SemOps.go (k := 1000) ?_
  have hmin : min (x4a : Int) 99 = ((min x4a 99 : Nat) : Int) := by omega
  have hmin2 : (if (99 : Int) < (x4a : Int) then (99 : Int) else (x4a : Int)) = ((min x4a 99 : Nat) : Int) := by split <;> omega
  by_cases hs : min x4a 99 < 1 ∨ 4 < min x4a 99
  · by_cases hl : min x4a 99 < 1
    · have hd : decide (((min x4a 99 : Nat) : Int) < (1 : Int)) = true := decide_eq_true (by omega)
      simp -dsimp (decide := true) (disch := first | omega | simp (decide := true) only [decp2b0]) only [decp2b1, ↓brun_b, Nat.reduceAdd, Nat.reduceBEq, hmin2, hd]
      refine SemOps.panic rfl rfl rfl ?_
      exact dec_pan rfl rfl (FC.c_length _) rfl rfl rfl (decode_err h0 (by show rbody 10 b q = _; simp only [rbody, Rd.map, Rd.both, g1, g2, g3, (show rsmall 1 4 2 b q3 = .error 2 by unfold rsmall; rw [Rd.bind_ok g4, if_pos hs]; rfl)]))
    · have hd : decide (((min x4a 99 : Nat) : Int) < (1 : Int)) = false := decide_eq_false (by omega)
      have hd2 : decide ((4 : Int) < ((min x4a 99 : Nat) : Int)) = true := decide_eq_true (by omega)
      simp -dsimp (decide := true) (disch := first | omega | simp (decide := true) only [decp2b0]) only [decp2b1, ↓brun_b, Nat.reduceAdd, Nat.reduceBEq, hmin2, hd, hd2]
      refine SemOps.panic rfl rfl rfl ?_
      exact dec_pan rfl rfl (FC.c_length _) rfl rfl rfl (decode_err h0 (by show rbody 10 b q = _; simp only [rbody, Rd.map, Rd.both, g1, g2, g3, (show rsmall 1 4 2 b q3 = .error 2 by unfold rsmall; rw [Rd.bind_ok g4, if_pos hs]; rfl)]))
  have hd : decide (((min x4a 99 : Nat) : Int) < (1 : Int)) = false := decide_eq_false (by omega)
  have hd2 : decide ((4 : Int) < ((min x4a 99 : Nat) : Int)) = false := decide_eq_false (by omega)
  simp -dsimp (decide := true) (disch := first | omega | simp (decide := true) only [decp2b0]) only [decp2b1, ↓brun_b, Nat.reduceAdd, Nat.reduceBEq, hmin2, hd, hd2]
  have s4 : rsmall 1 4 2 b q3 = .ok (min x4a 99, q4) := by unfold rsmall; rw [Rd.bind_ok g4, if_neg hs]; rfl
  clear hmin hmin2 hd hd2
  refine dec_call (num_takes b q4 hb hq4) cal.f153 rfl rfl rfl (by simp -dsimp (decide := true) (disch := first | omega | simp (decide := true) only [decp2b0]) only [decp2b2, ↓brun_b, Nat.reduceAdd]) (by simp -dsimp (decide := true) (disch := first | omega | simp (decide := true) only [decp2b0]) only [decp2b2, Nat.reduceAdd]) (by simp -dsimp (decide := true) (disch := first | omega | simp (decide := true) only [decp2b0]) only [decp2c1]) rfl rfl (FC.c_length _) rfl rfl rfl ?_ ?_
  · exact fun e g5 => decode_err h0 (by show rbody 10 b q = _; simp only [rbody, Rd.map, Rd.both, g1, g2, g3, s4, (show rsmall 0 64 2 b q4 = .error e by unfold rsmall; rw [Rd.bind_err g5])])
  rintro x5a q5 g5
  have hq5 := rnum_at.i64 hb g5
  refine SemOps.go (k := 1000) ?_
  have hmin : min (x5a : Int) 99 = ((min x5a 99 : Nat) : Int) := by omega
  have hmin2 : (if (99 : Int) < (x5a : Int) then (99 : Int) else (x5a : Int)) = ((min x5a 99 : Nat) : Int) := by split <;> omega
  by_cases hs : min x5a 99 < 0 ∨ 64 < min x5a 99
  · have hd : decide ((64 : Int) < ((min x5a 99 : Nat) : Int)) = true := decide_eq_true (by omega)
    simp -dsimp (decide := true) (disch := first | omega | simp (decide := true) only [decp2b0]) only [decp2b1, ↓brun_b, Nat.reduceAdd, Nat.reduceBEq, hmin2, hd]
    refine SemOps.panic rfl rfl rfl ?_
    exact dec_pan rfl rfl (FC.c_length _) rfl rfl rfl (decode_err h0 (by show rbody 10 b q = _; simp only [rbody, Rd.map, Rd.both, g1, g2, g3, s4, (show rsmall 0 64 2 b q4 = .error 2 by unfold rsmall; rw [Rd.bind_ok g5, if_pos hs]; rfl)]))
  have hd : decide ((64 : Int) < ((min x5a 99 : Nat) : Int)) = false := decide_eq_false (by omega)
  simp -dsimp (decide := true) (disch := first | omega | simp (decide := true) only [decp2b0]) only [decp2b1, ↓brun_b, Nat.reduceAdd, Nat.reduceBEq, hmin2, hd]
  have s5 : rsmall 0 64 2 b q4 = .ok (min x5a 99, q5) := by unfold rsmall; rw [Rd.bind_ok g5, if_neg hs]; rfl
  clear hmin hmin2 hd
  refine dec_call (item_takes b q5 hb hq5) cal.f161 rfl rfl rfl (by simp -dsimp (decide := true) (disch := first | omega | simp (decide := true) only [decp2b0]) only [decp2b2, ↓brun_b, Nat.reduceAdd]) (by simp -dsimp (decide := true) (disch := first | omega | simp (decide := true) only [decp2b0]) only [decp2b2, Nat.reduceAdd]) (by simp -dsimp (decide := true) (disch := first | omega | simp (decide := true) only [decp2b0]) only [decp2c1]) rfl rfl (FC.c_length _) rfl rfl rfl ?_ ?_
  · exact fun e g6 => decode_err h0 (by show rbody 10 b q = _; simp only [rbody, Rd.map, Rd.both, g1, g2, g3, s4, s5, g6])
  rintro ⟨x6a, ⟨x6b, x6c⟩, x6d⟩ q6 g6
  have hq6 := ritem_at.i64 hb g6
  refine SemOps.go (k := 1000) ?_
  simp -dsimp (decide := true) (disch := first | omega | simp (decide := true) only [decp2b0]) only [decp2b1, ↓brun_b, Nat.reduceAdd, Nat.reduceBEq]
  refine dec_call ((text_takes 64 (by decide)) b q6 hb hq6) cal.f156 rfl rfl rfl (by simp -dsimp (decide := true) (disch := first | omega | simp (decide := true) only [decp2b0]) only [decp2b2, ↓brun_b, Nat.reduceAdd]) (by simp -dsimp (decide := true) (disch := first | omega | simp (decide := true) only [decp2b0]) only [decp2b2, Nat.reduceAdd]) (by simp -dsimp (decide := true) (disch := first | omega | simp (decide := true) only [decp2b0]) only [decp2c1]) rfl rfl (FC.c_length _) rfl rfl rfl ?_ ?_
  · exact fun e g7 => decode_err h0 (by show rbody 10 b q = _; simp only [rbody, Rd.map, Rd.both, g1, g2, g3, s4, s5, g6, g7])
  rintro x7a q7 g7
  refine SemOps.go (k := 1000) ?_
  have hB : rbody (min 10 99) b q = .ok (fr10 (x1a, (x2a, (x3a, (min x4a 99, (min x5a 99, ((x6a, (x6b, x6c), x6d), x7a)))))), q7) := by show rbody 10 b q = _; simp only [rbody, Rd.map, Rd.both, g1, g2, g3, s4, s5, g6, g7]
  have hD := decode_ok h0 hB
  by_cases hlt : q7 < (b.length : Int)
  · have hd : decide (q7 < (b.length : Int)) = true := decide_eq_true hlt
    simp -dsimp (decide := true) (disch := first | omega | simp (decide := true) only [decp2b0]) only [decp2b1, ↓brun_b, Nat.reduceAdd, Nat.reduceBEq, hd]
    exact dec_ret rfl rfl (FC.c_length _) rfl rfl rfl zFrm zF_ent (by rw [hD, if_pos hlt])
  · have hd : decide (q7 < (b.length : Int)) = false := decide_eq_false hlt
    simp -dsimp (decide := true) (disch := first | omega | simp (decide := true) only [decp2b0]) only [decp2b1, ↓brun_b, Nat.reduceAdd, Nat.reduceBEq, hd]
    refine dec_ret rfl rfl (FC.c_length _) rfl rfl rfl _ ?_ (by rw [hD, if_neg hlt])
    unfold fr10 kF zFrm Frm.fc zF
    rw [FC.ent]
    (repeat' apply And.intro) <;> first | exact Ent.self (flat_v _) | exact ent_nil _ | exact Ent.self (bsl_flat _) | exact Ent.self (lsl_flat _)
end Go.Proofs
namespace Go.Proofs
open Go Go.SL
set_option maxRecDepth 100000
set_option maxHeartbeats 4000000 in
theorem dec_11 (b : List UInt8) (hb : b.length ≤ 140737488355328) (q : Int) (h0 : rnum b 0 = .ok (11, q)) : SCall Try.prog 117 [bsl b] [] (DR b) := by
  have hp0 : I64 0 := by unfold I64; omega
  have hq : I64 q := rnum_at.i64 hb h0
  refine dec_head b hb 11 q h0 11 rfl fun c hc => ?_
  cases hc
  refine Sem.go (k := 1000) ?_
  simp -dsimp (decide := true) (disch := first | omega | simp (decide := true) only [decp2b0]) only [decp2b1, ↓brun_b, Nat.reduceAdd, Nat.reduceBEq]
  refine dec_call (path_takes b q hb hq) cal.f157 rfl rfl rfl (by simp -dsimp (decide := true) (disch := first | omega | simp (decide := true) only [decp2b0]) only [decp2b2, ↓brun_b, Nat.reduceAdd]) (by simp -dsimp (decide := true) (disch := first | omega | simp (decide := true) only [decp2b0]) only [decp2b2, Nat.reduceAdd]) (by simp -dsimp (decide := true) (disch := first | omega | simp (decide := true) only [decp2b0]) only [decp2c1]) rfl rfl (FC.c_length _) rfl rfl rfl ?_ ?_
  · exact fun e g1 => decode_err h0 (by show rbody 11 b q = _; simp only [rbody, Rd.map, Rd.both, g1])
  rintro ⟨x1a, x1b⟩ q1 g1
  have hq1 := rpath_at.i64 hb g1
  refine SemOps.go (k := 1000) ?_
  simp -dsimp (decide := true) (disch := first | omega | simp (decide := true) only [decp2b0]) only [decp2b1, ↓brun_b, Nat.reduceAdd, Nat.reduceBEq]
  refine dec_call (flag_takes b q1 hb hq1) cal.f159 rfl rfl rfl (by simp -dsimp (decide := true) (disch := first | omega | simp (decide := true) only [decp2b0]) only [decp2b2, ↓brun_b, Nat.reduceAdd]) (by simp -dsimp (decide := true) (disch := first | omega | simp (decide := true) only [decp2b0]) only [decp2b2, Nat.reduceAdd]) (by simp -dsimp (decide := true) (disch := first | omega | simp (decide := true) only [decp2b0]) only [decp2c1]) rfl rfl (FC.c_length _) rfl rfl rfl ?_ ?_
  · exact fun e g2 => decode_err h0 (by show rbody 11 b q = _; simp only [rbody, Rd.map, Rd.both, g1, g2])
  rintro x2a q2 g2
  have hq2 := rflag_at.i64 hb g2
  refine SemOps.go (k := 1000) ?_
  simp -dsimp (decide := true) (disch := first | omega | simp (decide := true) only [decp2b0]) only [decp2b1, ↓brun_b, Nat.reduceAdd, Nat.reduceBEq]
  refine dec_call (item_takes b q2 hb hq2) cal.f161 rfl rfl rfl (by simp -dsimp (decide := true) (disch := first | omega | simp (decide := true) only [decp2b0]) only [decp2b2, ↓brun_b, Nat.reduceAdd]) (by simp -dsimp (decide := true) (disch := first | omega | simp (decide := true) only [decp2b0]) only [decp2b2, Nat.reduceAdd]) (by simp -dsimp (decide := true) (disch := first | omega | simp (decide := true) only [decp2b0]) only [decp2c1]) rfl rfl (FC.c_length _) rfl rfl rfl ?_ ?_
  · exact fun e g3 => decode_err h0 (by show rbody 11 b q = _; simp only [rbody, Rd.map, Rd.both, g1, g2, g3])
  rintro ⟨x3a, ⟨x3b, x3c⟩, x3d⟩ q3 g3
  refine SemOps.go (k := 1000) ?_
  have hB : rbody (min 11 99) b q = .ok (fr11 ((x1a, x1b), (x2a, (x3a, (x3b, x3c), x3d))), q3) := by show rbody 11 b q = _; simp only [rbody, Rd.map, Rd.both, g1, g2, g3]
  have hD := decode_ok h0 hB
  by_cases hlt : q3 < (b.length : Int)
  · have hd : decide (q3 < (b.length : Int)) = true := decide_eq_true hlt
    simp -dsimp (decide := true) (disch := first | omega | simp (decide := true) only [decp2b0]) only [decp2b1, ↓brun_b, Nat.reduceAdd, Nat.reduceBEq, hd]
    exact dec_ret rfl rfl (FC.c_length _) rfl rfl rfl zFrm zF_ent (by rw [hD, if_pos hlt])
  · have hd : decide (q3 < (b.length : Int)) = false := decide_eq_false hlt
    simp -dsimp (decide := true) (disch := first | omega | simp (decide := true) only [decp2b0]) only [decp2b1, ↓brun_b, Nat.reduceAdd, Nat.reduceBEq, hd]
    refine dec_ret rfl rfl (FC.c_length _) rfl rfl rfl _ ?_ (by rw [hD, if_neg hlt])
    unfold fr11 kF zFrm Frm.fc zF
    rw [FC.ent]
    (repeat' apply And.intro) <;> first | exact Ent.self (flat_v _) | exact ent_nil _ | exact Ent.self (bsl_flat _) | exact Ent.self (lsl_flat _)
end Go.Proofs
namespace Go.Proofs
open Go Go.SL
set_option maxRecDepth 100000
set_option maxHeartbeats 4000000 in
theorem dec_12 (b : List UInt8) (hb : b.length ≤ 140737488355328) (q : Int) (h0 : rnum b 0 = .ok (12, q)) : SCall Try.prog 117 [bsl b] [] (DR b) := by
  have hp0 : I64 0 := by unfold I64; omega
  have hq : I64 q := rnum_at.i64 hb h0
  refine dec_head b hb 12 q h0 12 rfl fun c hc => ?_
  cases hc
  refine Sem.go (k := 1000) ?_
  simp -dsimp (decide := true) (disch := first | omega | simp (decide := true) only [decp2b0]) only [decp2b1, ↓brun_b, Nat.reduceAdd, Nat.reduceBEq]
  refine dec_call (path_takes b q hb hq) cal.f157 rfl rfl rfl (by simp -dsimp (decide := true) (disch := first | omega | simp (decide := true) only [decp2b0]) only [decp2b2, ↓brun_b, Nat.reduceAdd]) (by simp -dsimp (decide := true) (disch := first | omega | simp (decide := true) only [decp2b0]) only [decp2b2, Nat.reduceAdd]) (by simp -dsimp (decide := true) (disch := first | omega | simp (decide := true) only [decp2b0]) only [decp2c1]) rfl rfl (FC.c_length _) rfl rfl rfl ?_ ?_
  · exact fun e g1 => decode_err h0 (by show rbody 12 b q = _; simp only [rbody, Rd.map, Rd.both, g1])
  rintro ⟨x1a, x1b⟩ q1 g1
  have hq1 := rpath_at.i64 hb g1
  refine SemOps.go (k := 1000) ?_
  simp -dsimp (decide := true) (disch := first | omega | simp (decide := true) only [decp2b0]) only [decp2b1, ↓brun_b, Nat.reduceAdd, Nat.reduceBEq]
  refine dec_call (flag_takes b q1 hb hq1) cal.f159 rfl rfl rfl (by simp -dsimp (decide := true) (disch := first | omega | simp (decide := true) only [decp2b0]) only [decp2b2, ↓brun_b, Nat.reduceAdd]) (by simp -dsimp (decide := true) (disch := first | omega | simp (decide := true) only [decp2b0]) only [decp2b2, Nat.reduceAdd]) (by simp -dsimp (decide := true) (disch := first | omega | simp (decide := true) only [decp2b0]) only [decp2c1]) rfl rfl (FC.c_length _) rfl rfl rfl ?_ ?_
  · exact fun e g2 => decode_err h0 (by show rbody 12 b q = _; simp only [rbody, Rd.map, Rd.both, g1, g2])
  rintro x2a q2 g2
  have hq2 := rflag_at.i64 hb g2
  refine SemOps.go (k := 1000) ?_
  simp -dsimp (decide := true) (disch := first | omega | simp (decide := true) only [decp2b0]) only [decp2b1, ↓brun_b, Nat.reduceAdd, Nat.reduceBEq]
  refine dec_call (idI_takes b q2 hb hq2) cal.f155 rfl rfl rfl (by simp -dsimp (decide := true) (disch := first | omega | simp (decide := true) only [decp2b0]) only [decp2b2, ↓brun_b, Nat.reduceAdd]) (by simp -dsimp (decide := true) (disch := first | omega | simp (decide := true) only [decp2b0]) only [decp2b2, Nat.reduceAdd]) (by simp -dsimp (decide := true) (disch := first | omega | simp (decide := true) only [decp2b0]) only [decp2c1]) rfl rfl (FC.c_length _) rfl rfl rfl ?_ ?_
  · exact fun e g3 => decode_err h0 (by show rbody 12 b q = _; simp only [rbody, Rd.map, Rd.both, g1, g2, g3])
  rintro x3a q3 g3
  have hq3 := ridI_at.i64 hb g3
  refine SemOps.go (k := 1000) ?_
  simp -dsimp (decide := true) (disch := first | omega | simp (decide := true) only [decp2b0]) only [decp2b1, ↓brun_b, Nat.reduceAdd, Nat.reduceBEq]
  refine dec_call (ver_takes b q3 hb hq3) cal.f162 rfl rfl rfl (by simp -dsimp (decide := true) (disch := first | omega | simp (decide := true) only [decp2b0]) only [decp2b2, ↓brun_b, Nat.reduceAdd]) (by simp -dsimp (decide := true) (disch := first | omega | simp (decide := true) only [decp2b0]) only [decp2b2, Nat.reduceAdd]) (by simp -dsimp (decide := true) (disch := first | omega | simp (decide := true) only [decp2b0]) only [decp2c1]) rfl rfl (FC.c_length _) rfl rfl rfl ?_ ?_
  · exact fun e g4 => decode_err h0 (by show rbody 12 b q = _; simp only [rbody, Rd.map, Rd.both, g1, g2, g3, g4])
  rintro ⟨x4a, x4b⟩ q4 g4
  refine SemOps.go (k := 1000) ?_
  have hB : rbody (min 12 99) b q = .ok (fr12 ((x1a, x1b), (x2a, (x3a, (x4a, x4b)))), q4) := by show rbody 12 b q = _; simp only [rbody, Rd.map, Rd.both, g1, g2, g3, g4]
  have hD := decode_ok h0 hB
  by_cases hlt : q4 < (b.length : Int)
  · have hd : decide (q4 < (b.length : Int)) = true := decide_eq_true hlt
    simp -dsimp (decide := true) (disch := first | omega | simp (decide := true) only [decp2b0]) only [decp2b1, ↓brun_b, Nat.reduceAdd, Nat.reduceBEq, hd]
    exact dec_ret rfl rfl (FC.c_length _) rfl rfl rfl zFrm zF_ent (by rw [hD, if_pos hlt])
  · have hd : decide (q4 < (b.length : Int)) = false := decide_eq_false hlt
    simp -dsimp (decide := true) (disch := first | omega | simp (decide := true) only [decp2b0]) only [decp2b1, ↓brun_b, Nat.reduceAdd, Nat.reduceBEq, hd]
    refine dec_ret rfl rfl (FC.c_length _) rfl rfl rfl _ ?_ (by rw [hD, if_neg hlt])
    unfold fr12 kF zFrm Frm.fc zF
    rw [FC.ent]
    (repeat' apply And.intro) <;> first | exact Ent.self (flat_v _) | exact ent_nil _ | exact Ent.self (bsl_flat _) | exact Ent.self (lsl_flat _)
end Go.Proofs
namespace Go.Proofs
open Go Go.SL
set_option maxRecDepth 100000
theorem frmc_flat (F : Frm) : SV.flatL F.fc.c = true := by unfold Frm.fc; exact frm_flat ..
def dres (b : List UInt8) : SV := .tup [.agg (decode b).1.fc.c, .v (.int .i64 (decode b).2)]
theorem dec_all (b : List UInt8) (hb : b.length ≤ 140737488355328) : SCall Try.prog 117 [bsl b] [] (DR b) := by
  rcases h0 : rnum b 0 with e | ⟨k, q⟩
  · exact dec_bad b hb e h0
  · by_cases hk : 1 ≤ k ∧ k ≤ 12
    · have : k = 1 ∨ k = 2 ∨ k = 3 ∨ k = 4 ∨ k = 5 ∨ k = 6 ∨ k = 7 ∨ k = 8 ∨ k = 9 ∨ k = 10 ∨ k = 11 ∨ k = 12 := by omega
      rcases this with rfl | rfl | rfl | rfl | rfl | rfl | rfl | rfl | rfl | rfl | rfl | rfl
      · exact dec_1 b hb q h0
      · exact dec_2 b hb q h0
      · exact dec_3 b hb q h0
      · exact dec_4 b hb q h0
      · exact dec_5 b hb q h0
      · exact dec_6 b hb q h0
      · exact dec_7 b hb q h0
      · exact dec_8 b hb q h0
      · exact dec_9 b hb q h0
      · exact dec_10 b hb q h0
      · exact dec_11 b hb q h0
      · exact dec_12 b hb q h0
    · exact dec_un b hb k q h0 hk
theorem dres_flat (b : List UInt8) : (dres b).flat = true := by
  simp only [dres, flat_tup, flatL_cons, flatL_nil, flat_agg, frmc_flat, flat_v, Bool.and_self]
theorem decode_pure (b : List UInt8) (hb : b.length ≤ 140737488355328) : Pure Try.prog 117 [bsl b] (dres b) := by
  have h : SCall Try.prog 117 [bsl b] [] fun r M => r = .ret (dres b) ∧ M = [none, none] := dec_all b hb
  exact SCall.tell [] h ⟨rfl, rfl, rfl, rfl, rfl, rfl, ⟨Ent.self (dres_flat b), trivial⟩, trivial⟩
end Go.Proofs
