/- Contracts of functions that the laws reach, on abstract values, and what they need: no conditions but those that each theorem states. -/
import Derived.Test.YtheodenjjaoncaaDecP1
set_option linter.unusedVariables false
set_option linter.unusedSimpArgs false
set_option linter.defProp false
namespace Go.Proofs
open Go Go.SL
set_option maxRecDepth 100000
def restD (fn : Func) : Option Go.Code :=
  match fn.body with
  | some (Go.Code.seq _ (Go.Code.seq _ (Go.Code.seq _ (Go.Code.seq _ c)))) => some c
  | _ => none
def decp2b0 :=
  (aI (aI (aI (aI @FC.c_length @FC.flat_eq) (aI @FC.one_eq @I16.c_length)) (aI (aI @I16.flat @I16.one) (aI @IC.c_length @IC.flat))) (aI (aI (aI @IC.one @bdset_a) (aI @bsl_flat @idrs_flat)) (aI (aI @idrs_len @p144_flat) (aI @p144_one @zF.eq_1))))
def decp2c0 :=
  (aI (aI (aI (aI (aI @FC.at_is @FC.at_kind) (aI @FC.at_op (aI @FC.at_ttl @FC.part))) (aI (aI @FC.set_P @FC.set_a) (aI @FC.set_all (aI @FC.set_b @FC.set_from)))) (aI (aI (aI @FC.set_is @FC.set_it) (aI @FC.set_key (aI @FC.set_kind @FC.set_n))) (aI (aI @FC.set_op @FC.set_to) (aI @FC.set_toA (aI @FC.set_tr @FC.set_ttl))))) (aI (aI (aI (aI @FC.set_tx @FC.set_ver) (aI @Int.cast_ofNat_Int (aI @SKren_row @after_mk))) (aI (aI @al151 @al37) (aI @b251 (aI @build151z @cellAt_succ)))) (aI (aI (aI @cellAt_zero @mergeL_done) (aI @mergeL_own (aI @mk37 @renL_cons))) (aI (aI @renL_flat @renL_nil) (aI @ren_tup (aI @splice_0 @splice_c))))))
def decp2c1 :=
  (aI (aI (aI (aI (aI @beq_self_eq_true.{0} @brun_a) (aI @cond_false.{1} @cond_true.{1})) (aI (aI @tab.a151 @tab.a3) (aI @tab.a79 (aI @tab.f149x0 @tab.f149x1)))) (aI (aI (aI @tab.f151x0 @tab.f151x1) (aI @tab.f151x10 (aI @tab.f151x11 @tab.f151x12))) (aI (aI @tab.f151x13 @tab.f151x2) (aI @tab.f151x3 (aI @tab.f151x4 @tab.f151x5))))) (aI (aI (aI (aI @tab.f151x6 @tab.f151x7) (aI @tab.f151x8 (aI @tab.f151x9 @tab.f251x1))) (aI (aI @tab.s135 @tab.s144) (aI @tab.s145 (aI @tab.s147 @tab.s149)))) (aI (aI (aI @tab.s151 @tab.s2) (aI @tab.s23 (aI @tab.s3 @tab.s35))) (aI (aI @tab.s37 @tab.s4) (aI @tab.s79 (aI @tab.u35 @tab.u79))))))
def decp2b1 :=
  (aI decp2c0 (aI decp2c1 @FC.c_length))
def decp2b2 :=
  (aI (aI (aI decp2c0 decp2c1) (aI @FC.c_length @bwk_a)) (aI (aI @eq_self.{1} @forall_const.{1}) (aI @implies_true.{0} @implies_true.{1})))
def decp2b4 :=
  (aI (aI (aI decp2c0 decp2c1) (aI @FC.c_length @FC.ent)) (aI (aI @bwk_a @eq_self.{1}) (aI @forall_const.{1} (aI @implies_true.{0} @implies_true.{1}))))
set_option maxHeartbeats 4000000 in
theorem dec_head (b : List UInt8) (hb : b.length ≤ 140737488355328) (k : Nat) (q : Int) (h0 : rnum b 0 = .ok (k, q)) (m : Int) (hm : ((min k 99 : Nat) : Int) = m) {R : SE → List (Option SK) → Prop}
    (tail : ∀ c, restD Try.f117 = some c → Go.SL.Sem Try.prog (QD Try.prog Try.f117 152 [.ptr 0 0 0, .ptr 1 0 0] R) [.code c] ⟨206, 2, [(0, bsl b), (2, .ptr 0 0 0), (3, .ptr 1 0 0), (4, .ptr 2 0 0)], [some (.row ⟨95, 1, true, 151, fun _ => FC.c { zF with kind := .v (.int .i64 m) }⟩), some (.row ⟨1, 1, true, 37, fun _ => [.v (.int .i64 0)]⟩), some (.row ⟨2, 1, true, 251, fun _ => [bsl b, .v (.int .i64 q)]⟩)]⟩) : SCall Try.prog 117 [bsl b] [] R := by
  have hp0 : I64 0 := by unfold I64; omega
  have hc := (num_takes b 0 hb hp0).1 _ _ h0
  have hmin : min (k : Int) 99 = m := by rw [← hm]; omega
  have hmin2 : (if (99 : Int) < (k : Int) then (99 : Int) else (k : Int)) = m := by rw [← hm]; split <;> omega
  refine SCall.mkDefer (fn := Try.f117) (by kernel_rfl) rfl (Nat.le_of_ble_eq_true (by kernel_rfl)) ?_
  refine goC ?_
  simp -dsimp +decide (disch := first | omega | simp +decide only [decp2b0]) only [decp2b1, ↓brun_b, envOf]
  refine ⟨_, _, _, _, _, _, rfl, rfl, rfl, rfl, rfl, rfl, Nat.lt_of_sub_pos (by decide : 0 < 206 - 5), ?_, cal.f152, ?_⟩
  · simp -dsimp +decide (disch := first | omega | simp +decide only [decp2b0]) only [decp2b1]
  refine Sem.go (k := 3) ?_
  simp -dsimp +decide (disch := first | omega | simp +decide only [decp2b0]) only [decp2b1, ↓brun_b, Nat.reduceAdd, Nat.reduceBEq]
  refine Sem.cutW [_] ⟨206, 2, [(0, bsl b), (2, .ptr 0 0 0), (3, .ptr 1 0 0), (4, .ptr 2 0 0)], [some (.row ⟨95, 1, true, 151, fun _ => FC.c { zF with kind := .v (.int .i64 m) }⟩), some (.row ⟨1, 1, true, 37, fun _ => [.v (.int .i64 0)]⟩), some (.row ⟨2, 1, true, 251, fun _ => [bsl b, .v (.int .i64 q)]⟩)]⟩ ?_ (tail _ rfl)
  refine goC ?_
  simp -dsimp +decide (disch := first | omega | simp +decide only [decp2b0]) only [decp2b1, ↓brun_b, Nat.reduceAdd]
  refine SemOps.callw [2] cal.f153 (hc) rfl rfl rfl (by simp -dsimp +decide (disch := first | omega | simp +decide only [decp2b0]) only [decp2b2, ↓brun_b, Nat.reduceAdd]) rfl (by simp -dsimp +decide (disch := first | omega | simp +decide only [decp2b0]) only [decp2b2, Nat.reduceAdd]) (dK rfl) ?_
  refine goK ?_
  simp -dsimp +decide (disch := first | omega | simp +decide only [decp2b0]) only [decp2b1, ↓brun_b, Nat.reduceAdd, Nat.reduceBEq, hmin2]
  refine ⟨[0, 1, 2], ?_⟩
  (refine Wk.ofC ?_; simp -dsimp +decide (disch := first | omega | simp +decide only [decp2b0]) only [decp2b4, ↓brun_b, Nat.reduceAdd, Nat.reduceBEq])
end Go.Proofs
namespace Go.Proofs
open Go Go.SL
set_option maxRecDepth 100000
theorem ridl_err {b : List UInt8} {p e : Int} (h : rmany 16 b p = .error e) : ridl b p = .error e := by unfold ridl; rw [Rd.bind_err h]
theorem ridl_ok {b : List UInt8} {p q : Int} {n : Nat} (h : rmany 16 b p = .ok (n, q)) : ridl b p = rids n b q := by unfold ridl; rw [Rd.bind_ok h]
def IdsAt (n : Nat) (b : List UInt8) (p0 : Int) (k : Nat) (l : List I16) (q : Int) : Prop :=
  rids n b p0 = match rids (n - k) b q with
    | .error e => .error e
    | .ok (m, q') => .ok (l ++ m, q')
theorem idsAt_err {n : Nat} {b : List UInt8} {p0 : Int} {k : Nat} {l : List I16} {q e : Int} (h : IdsAt n b p0 k l q) (hk : k < n) (hg : ridI b q = .error e) : rids n b p0 = .error e := by
  obtain ⟨j, hj⟩ : ∃ j, n - k = j + 1 := ⟨n - k - 1, by omega⟩
  unfold IdsAt at h
  rw [h, hj, rids, Rd.bind_err hg]
theorem idsAt_step {n : Nat} {b : List UInt8} {p0 : Int} {k : Nat} {l : List I16} {q : Int} {x : I16} {q' : Int} (h : IdsAt n b p0 k l q) (hk : k < n) (hg : ridI b q = .ok (x, q')) : IdsAt n b p0 (k + 1) (l ++ [x]) q' := by
  obtain ⟨j, hj⟩ : ∃ j, n - k = j + 1 := ⟨n - k - 1, by omega⟩
  unfold IdsAt at h ⊢
  rw [h, hj, rids, Rd.bind_ok hg, show n - (k + 1) = j by omega]
  rcases hr : rids j b q' with e | ⟨m, q2⟩
  · rw [Rd.bind_err hr]
  · rw [Rd.bind_ok hr, Rd.pure]
    simp
theorem idsAt_end {n : Nat} {b : List UInt8} {p0 : Int} {l : List I16} {q : Int} (h : IdsAt n b p0 n l q) : rids n b p0 = .ok (l, q) := by
  unfold IdsAt at h
  rw [h, Nat.sub_self, rids, Rd.pure]
  simp
theorem bs79 (N : Nat) (x : I16) : sBuildSlice Try.prog N 79 1 [(0, .agg x.c)] = some ⟨.slc N 0 1, ⟨none, some (.row ⟨16, 1, true, 23, fun e => (x.c.drop (e * 16)).take 16⟩)⟩, True⟩ :=
  buildSlice_one tab.u79 tab.s23 tab.z23 (by decide) rfl (by decide) x.c _ rfl (by rw [I16.c_length]) (I16.one x)
theorem app_idrs {fz : Nat → Option SB} {ρ : Nat → Nat} (l : List I16) (x : I16) (e : Nat) (he : e < l.length + 1) : EntL fz ρ ((idrs (l ++ [x])).getD e []) (if e < l.length then (idrs l).getD e [] else (x.c.drop ((e - l.length) * 16)).take 16) := by
  by_cases h : e < l.length
  · have e1 : (idrs (l ++ [x])).getD e [] = (idrs l).getD e [] := by
      simp only [idrs, List.map_append, List.getD_eq_getElem?_getD]
      rw [List.getElem?_append_left (by rw [List.length_map]; exact h)]
    rw [if_pos h, e1, idrs_at l e h I16.zero]; exact EntL.self (I16.flat _)
  · obtain rfl : e = l.length := by omega
    have e1 : (idrs (l ++ [x])).getD l.length [] = x.c := by simp [idrs, List.getD_eq_getElem?_getD]
    rw [if_neg h, Nat.sub_self, e1, Nat.zero_mul, List.drop_zero, List.take_of_length_le (by rw [I16.c_length]; exact Nat.le_refl _)]
    exact EntL.self (I16.flat _)
theorem ids_row {fz : Nat → Option SB} {ρ : Nat → Nat} (l : List I16) (i : Nat) (r : List SV) (h : (idrs l)[i]? = some r) : EntL fz ρ r ((idrs l).getD (0 + i) []) := by
  have e : (idrs l).getD (0 + i) [] = r := by rw [Nat.zero_add, List.getD_eq_getElem?_getD, h, Option.getD_some]
  rw [e]
  exact EntL.self (flatR_getD _ i r (idrs_flat l) h)
theorem FC.put_is (x : FC) (v : SV) : x.c.set 57 v = FC.c { x with is := v } := by simp [FC.c, I16.c_length]
theorem FC.get_is (x : FC) : x.c[57]? = some x.is := by simp [FC.c, I16.c_length]
theorem rmany_at {most : Int} : RdAt (rmany most) := fun b p x q e => by
  unfold rmany at e
  rcases hg : rnum b p with e' | ⟨y, q'⟩
  · rw [hg] at e; cases e
  · rw [hg] at e
    simp only at e
    split at e
    · cases e
    · injection e with e
      injection e with _ e
      rw [← e]
      exact rnum_at b p y q' hg
theorem rmany_le {most : Int} {b : List UInt8} {p q : Int} {n : Nat} (e : rmany most b p = .ok (n, q)) : (n : Int) ≤ most := by
  unfold rmany at e
  rcases hg : rnum b p with e' | ⟨y, q'⟩
  · rw [hg] at e; cases e
  · rw [hg] at e
    simp only at e
    split at e
    · cases e
    · injection e with e
      injection e with e _
      omega
set_option maxHeartbeats 4000000 in
theorem dec_bad (b : List UInt8) (hb : b.length ≤ 140737488355328) (e : Int) (h0 : rnum b 0 = .error e) : SCall Try.prog 117 [bsl b] [] (DR b) := by
  have hp0 : I64 0 := by unfold I64; omega
  have hc := (num_takes b 0 hb hp0).2 _ h0
  refine SCall.mkDefer (fn := Try.f117) (by kernel_rfl) rfl (Nat.le_of_ble_eq_true (by kernel_rfl)) ?_
  refine goC ?_
  simp -dsimp +decide (disch := first | omega | simp +decide only [decp2b0]) only [decp2b1, ↓brun_b, envOf]
  refine ⟨_, _, _, _, _, _, rfl, rfl, rfl, rfl, rfl, rfl, Nat.lt_of_sub_pos (by decide : 0 < 206 - 5), ?_, cal.f152, ?_⟩
  · simp -dsimp +decide (disch := first | omega | simp +decide only [decp2b0]) only [decp2b1]
  refine goC ?_
  simp -dsimp +decide (disch := first | omega | simp +decide only [decp2b0]) only [decp2b1, ↓brun_b, Nat.reduceAdd, Nat.reduceBEq]
  refine SemOps.callPanL [2] cal.f153 (hc) (fun _ => rfl) rfl rfl rfl (by simp -dsimp +decide (disch := first | omega | simp +decide only [decp2b0]) only [decp2b2, ↓brun_b, Nat.reduceAdd]) rfl (by simp -dsimp +decide (disch := first | omega | simp +decide only [decp2b0]) only [decp2b2, Nat.reduceAdd]) (dK rfl) ?_
  exact dec_panL (by decide) rfl rfl (FC.c_length _) rfl rfl rfl (decode_num h0)
set_option maxHeartbeats 4000000 in
theorem dec_un (b : List UInt8) (hb : b.length ≤ 140737488355328) (k : Nat) (q : Int) (h0 : rnum b 0 = .ok (k, q)) (hk : ¬ (1 ≤ k ∧ k ≤ 12)) : SCall Try.prog 117 [bsl b] [] (DR b) := by
  have hmin : min (k : Int) 99 = ((min k 99 : Nat) : Int) := by omega
  have hmin2 : (if (99 : Int) < (k : Int) then (99 : Int) else (k : Int)) = ((min k 99 : Nat) : Int) := by split <;> omega
  have d1 : decide (((min k 99 : Nat) : Int) = 1) = false := decide_eq_false (by omega)
  have d2 : decide (((min k 99 : Nat) : Int) = 2) = false := decide_eq_false (by omega)
  have d3 : decide (((min k 99 : Nat) : Int) = 3) = false := decide_eq_false (by omega)
  have d4 : decide (((min k 99 : Nat) : Int) = 4) = false := decide_eq_false (by omega)
  have d5 : decide (((min k 99 : Nat) : Int) = 5) = false := decide_eq_false (by omega)
  have d6 : decide (((min k 99 : Nat) : Int) = 6) = false := decide_eq_false (by omega)
  have d7 : decide (((min k 99 : Nat) : Int) = 7) = false := decide_eq_false (by omega)
  have d8 : decide (((min k 99 : Nat) : Int) = 8) = false := decide_eq_false (by omega)
  have d9 : decide (((min k 99 : Nat) : Int) = 9) = false := decide_eq_false (by omega)
  have d10 : decide (((min k 99 : Nat) : Int) = 10) = false := decide_eq_false (by omega)
  have d11 : decide (((min k 99 : Nat) : Int) = 11) = false := decide_eq_false (by omega)
  have d12 : decide (((min k 99 : Nat) : Int) = 12) = false := decide_eq_false (by omega)
  have hp0 : I64 0 := by unfold I64; omega
  have hq : I64 q := rnum_at.i64 hb h0
  refine dec_head b hb k q h0 _ rfl fun c hc => ?_
  cases hc
  refine goC ?_
  simp -dsimp +decide (disch := first | omega | simp +decide only [decp2b0]) only [decp2b1, ↓brun_b, Nat.reduceAdd, Nat.reduceBEq, d1, d2, d3, d4, d5, d6, d7, d8, d9, d10, d11, d12]
  have hB : rbody (min k 99) b q = .error 2 := by
    have : rbody (min k 99) = Rd.fail 2 := by
      generalize hm : min k 99 = m
      have : ¬ (1 ≤ m ∧ m ≤ 12) := by omega
      unfold rbody
      split <;> first | omega | rfl
    rw [this]
    rfl
  exact dec_ret rfl rfl (FC.c_length _) rfl rfl rfl zFrm zF_ent (decode_err h0 hB)
end Go.Proofs
namespace Go.Proofs
open Go Go.SL
set_option maxRecDepth 100000
end Go.Proofs
namespace Go.Proofs
open Go Go.SL
set_option maxRecDepth 100000
end Go.Proofs
namespace Go.Proofs
open Go Go.SL
set_option maxRecDepth 100000
end Go.Proofs
namespace Go.Proofs
open Go Go.SL
set_option maxRecDepth 100000
end Go.Proofs
namespace Go.Proofs
open Go Go.SL
set_option maxRecDepth 100000
set_option maxHeartbeats 4000000 in
theorem dec_5 (b : List UInt8) (hb : b.length ≤ 140737488355328) (q : Int) (h0 : rnum b 0 = .ok (5, q)) : SCall Try.prog 117 [bsl b] [] (DR b) := by
  have hp0 : I64 0 := by unfold I64; omega
  have hq : I64 q := rnum_at.i64 hb h0
  refine dec_head b hb 5 q h0 5 rfl fun c hc => ?_
  cases hc
  refine goC ?_
  simp -dsimp +decide (disch := first | omega | simp +decide only [decp2b0]) only [decp2b1, ↓brun_b, Nat.reduceAdd, Nat.reduceBEq]
  refine dec_call (path_takes b q hb hq) cal.f157 rfl rfl rfl (by simp -dsimp +decide (disch := first | omega | simp +decide only [decp2b0]) only [decp2b2, ↓brun_b, Nat.reduceAdd]) (by simp -dsimp +decide (disch := first | omega | simp +decide only [decp2b0]) only [decp2b2, Nat.reduceAdd]) (by simp -dsimp +decide (disch := first | omega | simp +decide only [decp2b0]) only [decp2c1]) rfl rfl (FC.c_length _) rfl rfl rfl ?_ ?_
  · exact fun e g1 => decode_err h0 (by show rbody 5 b q = _; simp only [rbody, Rd.map, g1])
  rintro ⟨x1a, x1b⟩ q1 g1
  refine goK ?_
  have hB : rbody (min 5 99) b q = .ok (fr5 (x1a, x1b), q1) := by show rbody 5 b q = _; simp only [rbody, Rd.map, g1]
  have hD := decode_ok h0 hB
  by_cases hlt : q1 < (b.length : Int)
  · have hd : decide (q1 < (b.length : Int)) = true := decide_eq_true hlt
    simp -dsimp +decide (disch := first | omega | simp +decide only [decp2b0]) only [decp2b1, ↓brun_b, Nat.reduceAdd, Nat.reduceBEq, hd]
    exact dec_ret rfl rfl (FC.c_length _) rfl rfl rfl zFrm zF_ent (by rw [hD, if_pos hlt])
  · have hd : decide (q1 < (b.length : Int)) = false := decide_eq_false hlt
    simp -dsimp +decide (disch := first | omega | simp +decide only [decp2b0]) only [decp2b1, ↓brun_b, Nat.reduceAdd, Nat.reduceBEq, hd]
    refine dec_ret rfl rfl (FC.c_length _) rfl rfl rfl _ ?_ (by rw [hD, if_neg hlt])
    unfold fr5 kF zFrm Frm.fc zF
    rw [FC.ent]
    (repeat' apply And.intro) <;> first | exact Ent.self (flat_v _) | exact ent_nil _ | exact Ent.self (bsl_flat _) | exact Ent.self (lsl_flat _)
end Go.Proofs
namespace Go.Proofs
open Go Go.SL
set_option maxRecDepth 100000
end Go.Proofs
namespace Go.Proofs
open Go Go.SL
set_option maxRecDepth 100000
end Go.Proofs
namespace Go.Proofs
open Go Go.SL
set_option maxRecDepth 100000
end Go.Proofs
namespace Go.Proofs
open Go Go.SL
set_option maxRecDepth 100000
end Go.Proofs
namespace Go.Proofs
open Go Go.SL
set_option maxRecDepth 100000
end Go.Proofs
namespace Go.Proofs
open Go Go.SL
set_option maxRecDepth 100000
end Go.Proofs
namespace Go.Proofs
open Go Go.SL
set_option maxRecDepth 100000
end Go.Proofs
