/- Contracts of functions that the laws reach, on abstract values, and what they need: no conditions but those that each theorem states. -/
import Derived.Test.YtheodenjjaoncaaDecP2
import Derived.Test.YtheodenjjaoncaaWirR
import Derived.Test.YtheodenjjaoncaaFcP
set_option linter.unusedVariables false
set_option linter.unusedSimpArgs false
set_option linter.defProp false
namespace Go.Proofs
open Go Go.SL
set_option maxRecDepth 100000
def ladR (i : Nat) (b : List UInt8) : Option SK := some (.row ⟨1, 1, true, 222, fun _ => [.slc i 0 b.length]⟩)
def bytR (b : List UInt8) : Option SK := some (.row ⟨1, b.length, true, 5, brow b⟩)
def Lays (f : FuncId) (more : List SV) (add : List UInt8) : Prop :=
  ∀ acc : List UInt8, acc.length + add.length ≤ 140737488355328 → SCall Try.prog f (.ptr 0 0 0 :: more) [ladR 1 acc, bytR acc] fun r L => r = .ret (.tup []) ∧ L = [ladR 2 (acc ++ add), none, bytR (acc ++ add)]
def nB (ns : List Int) : List UInt8 := ns.flatMap N
theorem nB_take (ns : List Int) (k : Nat) (h : k < ns.length) : nB (ns.take (k + 1)) = nB (ns.take k) ++ N (ns.getD k 0) := by
  unfold nB
  rw [List.take_add_one, List.flatMap_append, List.getD_eq_getElem?_getD, List.getElem?_eq_getElem h]
  simp
theorem nB_le (ns : List Int) (k : Nat) : (nB (ns.take k)).length ≤ (nB ns).length := by
  have : nB ns = nB (ns.take k) ++ nB (ns.drop k) := by unfold nB; rw [← List.flatMap_append, List.take_append_drop]
  rw [this, List.length_append]
  omega
def laypc0 :=
  (And.intro (And.intro @I16.flat (And.intro @I16.one @bdset_a)) (And.intro (And.intro @brow_flat @idrs_flat) (And.intro @lrows_flat @urows.flat)))
def laypb0 :=
  (And.intro (And.intro laypc0 @I16.c_length) (And.intro @idrs_len @lrows_length))
def laypc1 :=
  (And.intro (And.intro (And.intro @Int.cast_ofNat_Int (And.intro @SKren_row @after_mk)) (And.intro @cellAt_succ (And.intro @cellAt_zero @mergeL_done))) (And.intro (And.intro @mergeL_own (And.intro @renL_cons @renL_flat)) (And.intro (And.intro @renL_nil @ren_tup) (And.intro @splice_0 @splice_c))))
def laypc2 :=
  (And.intro (And.intro @beq_self_eq_true.{0} @brun_a) (And.intro @cond_false.{1} (And.intro @cond_true.{1} @tab.s5)))
def laypc3 :=
  (And.intro (And.intro @tab.a3 (And.intro @tab.a35 @tab.f222x0)) (And.intro @tab.s3 (And.intro @tab.s35 @tab.u35)))
def laypb1 :=
  (And.intro (And.intro (And.intro laypc1 laypc2) (And.intro laypc3 @lrows_length)) (And.intro (And.intro @tab.a2 @tab.s2) (And.intro @tab.u2 (And.intro @tab.u36 @tab.u69))))
def laypb2 :=
  (And.intro (And.intro (And.intro laypc1 (And.intro laypc2 laypc3)) (And.intro (And.intro @bwk_a @eq_self.{1}) (And.intro @forall_const.{1} @implies_true.{0}))) (And.intro (And.intro @implies_true.{1} (And.intro @lrows_length @tab.a2)) (And.intro (And.intro @tab.s2 @tab.u2) (And.intro @tab.u36 @tab.u69))))
def laypb3 :=
  (And.intro (And.intro (And.intro @List.length_cons.{0} @List.length_nil.{0}) (And.intro @Nat.zero_add @roL_in)) (And.intro (And.intro @roL_nil @roL_none) (And.intro @roL_row @ro_mk)))
def laypb4 :=
  (And.intro (And.intro (And.intro laypc1 laypc2) (And.intro laypc3 (And.intro @bs43_1 @lrows_length))) (And.intro (And.intro @tab.a2 @tab.s2) (And.intro @tab.u2 (And.intro @tab.u36 @tab.u69))))
def laypb5 :=
  (And.intro (And.intro laypc2 (And.intro laypc3 @tab.a2)) (And.intro (And.intro @tab.s2 @tab.u2) (And.intro @tab.u36 @tab.u69)))
theorem num_lays (ns : List Int) (hn : ∀ n ∈ ns, 0 ≤ n ∧ n < 9223372036854775808) (hl : ns.length < 4611686018427387904) : Lays 144 [.rsl 1 (lrows ns)] (nB ns) := by
  intro acc hb
  unfold ladR bytR
  refine SCall.mk (fn := Try.f144) (by kernel_rfl) rfl (Nat.le_of_ble_eq_true (by kernel_rfl)) ?_
  refine Sem.go (k := 1000) ?_
  simp -dsimp (decide := true) (disch := first | omega | simp (decide := true) only [laypb0]) only [laypb1, ↓brun_b, envOf, Nat.reduceAdd, Nat.reduceBEq]
  refine Sem.weakenM [0, 1, 1] (s' := ⟨25, 2, [(0, .ptr 0 0 0), (6, .rsl 1 (lrows ns)), (7, .v (.int .i64 (ns.length : Int))), (8, .v (.int .i64 0))], [some (.row ⟨1, 1, true, 222, fun _ => [.slc 2 0 acc.length]⟩), none, some (.row ⟨1, acc.length, true, 5, brow acc⟩)]⟩) ⟨rfl, rfl, rfl, rfl, rfl, rfl, ?_, ?_⟩ ?_
  · simp -dsimp (decide := true) (disch := first | omega | simp (decide := true) only [laypb0]) only [laypb2, ↓brun_b, Nat.reduceAdd, Nat.reduceBEq]
  · simp -dsimp (decide := true) (disch := first | omega | simp (decide := true) only [laypb0]) only [laypb2, Nat.reduceAdd]
  refine Sem.loop (ι := {k : Nat // k ≤ ns.length}) (fun k => ⟨25, 2, [(0, .ptr 0 0 0), (6, .rsl 1 (lrows ns)), (7, .v (.int .i64 (ns.length : Int))), (8, .v (.int .i64 (k.1 : Int)))], [some (.row ⟨1, 1, true, 222, fun _ => [.slc 2 0 (acc ++ nB (ns.take k.1)).length]⟩), none, some (.row ⟨1, (acc ++ nB (ns.take k.1)).length, true, 5, brow (acc ++ nB (ns.take k.1))⟩)]⟩) (fun k => ns.length - k.1) ⟨0, Nat.zero_le _⟩ [0, 1, 2] ?_ ?_
  · have h0 : acc ++ nB (ns.take 0) = acc := by simp [nB]
    (refine Wk.ofC ?_; simp -dsimp (decide := true) (disch := first | omega | simp (decide := true) only [laypb0]) only [laypb2, ↓brun_b, Nat.reduceAdd, Nat.reduceBEq, h0])
  · rintro ⟨k, hk⟩
    refine Sem.go (k := 1000) ?_
    simp -dsimp (decide := true) (disch := first | omega | simp (decide := true) only [laypb0]) only [laypb1, ↓brun_b, Nat.reduceAdd, Nat.reduceBEq]
    refine SCond.split (fun h => ?_) (fun h => ?_)
    · simp only [decide_eq_true_eq] at h
      have hk' : k < ns.length := by omega
      have hwk : IntKind.i64.wrap ((k : Int) + 1) = ((k + 1 : Nat) : Int) := by rw [wrap_i64 _ (by omega)]; rfl
      have hft := nB_take ns k hk'
      have hle := nB_le ns (k + 1)
      have hat := lrows_at ns k hk'
      have hmem : ns.getD k 0 ∈ ns := by rw [List.getD_eq_getElem?_getD, List.getElem?_eq_getElem hk', Option.getD_some]; exact List.getElem_mem hk'
      have hnn := hn _ hmem
      rw [hft, List.length_append] at hle
      simp -dsimp (decide := true) (disch := first | omega | simp (decide := true) only [laypb0]) only [laypb1, ↓brun_b, Nat.reduceAdd, Nat.reduceBEq, Nat.reduceLeDiff, hat, lrow]
      generalize ns.getD k 0 = x at *
      have hacc : (acc ++ nB (ns.take k)).length = acc.length + (nB (ns.take k)).length := List.length_append
      have hnx : (N x).length ≤ 9 := by
        unfold N
        rw [form_length]
        have := wide_le8 x.toNat (by omega)
        omega
      generalize ha : acc ++ nB (ns.take k) = a at *
      obtain ⟨m, rfl⟩ : ∃ m : Nat, x = (m : Int) := ⟨x.toNat, by omega⟩
      have hN : N (m : Int) = form m := by simp [N]
      rw [hN] at hft hle hnx
      have hwu : IntKind.u64.wrap (m : Int) = (m : Int) := wrap_u64 _ (by omega)
      have hln : ∀ n ∈ [m], n < 18446744073709551616 := fun n hn => by
        rw [List.mem_singleton.1 hn]
        omega
      refine And.intro (by omega) ?_
      refine Sem.go (k := 1000) ?_
      simp -dsimp (decide := true) (disch := first | omega | simp (decide := true) only [laypb0]) only [laypb1]
      refine Sem.draw' (by kernel_rfl) (.one 0 (.one 1 (.one 2 (.one 3 (.one 5 (.one 6 (.alt 4 (.alt 7 (.alt 8 (.alt 9 (.one 10 (.one 11 (.alt 12 .done .non))) .non) .non) .non) (.alt 7 (.alt 4 (.alt 8 (.alt 9 (.one 10 (.one 11 (.alt 12 .done .non))) .non) .non) (.alt 8 (.alt 4 (.alt 9 (.one 10 (.one 11 (.alt 12 .done .non))) .non) .non) .non)) .non)))))))) [0, 2] (by kernel_rfl) (fun G ff hG hf => ?_)
      simp (decide := true) only [laypb3, Nat.reduceAdd] at hG ⊢
      simp -dsimp (decide := true) (disch := first | omega | simp (decide := true) only [laypb0]) only [laypb4, ↓brun_b, Nat.reduceAdd, Nat.reduceBEq, hwu]
      have hl9 : [m].length * 9 ≤ 140737488355328 := by rw [List.length_singleton]; decide
      have hfm : ([m].flatMap form) = form m := by simp
      (repeat' refine And.intro ?_ ?_)
      all_goals
        refine OpSem.frz (d := 19) (urows [m]) rfl rfl rfl (by omega) (fun i r h => ent_ucells h) ?_
        refine OpSem.callq cal.f44 (putNum_calls [m] hln hl9) rfl rfl rfl (by simp only [bflat_a, urows.flat]) (by simp only [bflat_a]) (by simp -dsimp (decide := true) (disch := first | omega | simp (decide := true) only [laypb0]) only [laypb5]) ?_
        simp -dsimp (decide := true) (disch := first | omega | simp (decide := true) only [laypb0]) only [laypb1, ↓brun_b, Nat.reduceAdd, Nat.reduceBEq, hfm, sapp1_sl el5]
        (repeat' refine And.intro ?_ ?_)
        all_goals first | omega | skip
        all_goals
          refine hf _ (Sem.go (k := 1000) ?_)
          simp (decide := true) only [back_mk, backL_in, backL_none, backL_nil, Nat.zero_add, Nat.reduceAdd]
          simp -dsimp (decide := true) (disch := first | omega | simp (decide := true) only [laypb0]) only [laypb1, ↓brun_b, Nat.reduceAdd, Nat.reduceBEq, hwk]
          refine ⟨⟨k + 1, by omega⟩, [0, 1, 4], ?_, by show ns.length - (k + 1) < ns.length - k; omega⟩
          have hl3 : (a ++ form m).length = a.length + (form m).length := List.length_append
          have hstep : acc ++ nB (ns.take (k + 1)) = a ++ form m := by rw [hft, ← List.append_assoc, ha]
          (refine Wk.ofC ?_; simp -dsimp (decide := true) (disch := first | omega | simp (decide := true) only [laypb0]) only [laypb2, ↓brun_b, Nat.reduceAdd, Nat.reduceBEq, hstep, hl3])
          intro e he
          rw [brow_app2r _ _ _ he]
          exact EntL.self rfl
    · simp only [decide_eq_false_iff_not] at h
      obtain rfl : k = ns.length := by omega
      have hft : ns.take ns.length = ns := List.take_length
      simp -dsimp (decide := true) (disch := first | omega | simp (decide := true) only [laypb0]) only [laypb1, reduceIte, hft]
      refine SQ.fin (SQ.runL (rs := []) [0, 1, 2] (.tup []) _ rfl (And.intro rfl rfl) (by decide) rfl rfl ?_ ?_)
      · simp -dsimp (decide := true) (disch := first | omega | simp (decide := true) only [laypb0]) only [laypb2, Nat.reduceAdd]
      · simp -dsimp (decide := true) (disch := first | omega | simp (decide := true) only [laypb0]) only [laypb2, ↓brun_b, Nat.reduceAdd]
        exact Ent.eq rfl
end Go.Proofs
namespace Go.SL
open Go
def ssrc2 (K : Option SK) (size e k n : Nat) : Option Src := match K with
  | some (.row B) => if size = 1 then some ⟨n, fun i => [cellAt (B.el e) (k + i)], e < B.n ∧ k + n ≤ B.size⟩ else none
  | _ => none
theorem sSrc_asl (get : Nat → Option SK) (size b e k n : Nat) : sSrc get size (.asl b e k n) = ssrc2 (get b) size e k n := Eq.trans rfl rfl
theorem ssrc2_row (z m : Nat) (own : Bool) (ty : TypeId) (el : Nat → List SV) (e k n : Nat) : ssrc2 (some (.row ⟨z, m, own, ty, el⟩)) 1 e k n = some ⟨n, fun i => [cellAt (el e) (k + i)], e < m ∧ k + n ≤ z⟩ := Eq.trans rfl rfl
end Go.SL
namespace Go.Proofs
open Go Go.SL
set_option maxRecDepth 100000
theorem iB_row (x : I16) (i : Nat) (h : i < 16) : brow (iB x) i = [cellAt x.c i] := by
  have hi : i < x.l.length := by rw [x.len]; exact h
  have h1 : cellAt x.c i = .v (.int .u8 (x.l.getD i 0)) := by
    unfold I16.c
    exact cellAt_map x.l i hi
  have h2 := x.rng (x.l[i]) (List.getElem_mem hi)
  rw [h1]
  unfold brow iB
  rw [List.getD_eq_getElem?_getD, List.getD_eq_getElem?_getD, List.getElem?_map, List.getElem?_eq_getElem hi]
  simp only [Option.map_some, Option.getD_some, UInt8.toNat_ofNat']
  congr 3
  omega
theorem idsB_take (l : List I16) (k : Nat) (h : k < l.length) (d : I16) : idsB (l.take (k + 1)) = idsB (l.take k) ++ iB (l.getD k d) := by
  induction l generalizing k with
  | nil => simp at h
  | cons x l ih =>
    cases k with
    | zero => simp [idsB]
    | succ k =>
      simp only [List.take_succ_cons, idsB, List.getD_cons_succ]
      rw [ih k (by simpa using h), List.append_assoc]
theorem idsB_length (l : List I16) : (idsB l).length = 16 * l.length := by
  induction l with
  | nil => rfl
  | cons x l ih => rw [idsB, List.length_append, iB_length, ih, List.length_cons]; omega
theorem app_id {fz : Nat → Option SB} {ρ : Nat → Nat} (a : List UInt8) (x : I16) (e : Nat) (he : e < a.length + 16) : EntL fz ρ (brow (a ++ iB x) e) (if e < a.length then brow a e else [cellAt x.c (e - a.length)]) := by
  by_cases h : e < a.length
  · rw [if_pos h, ← brow_app2 a (iB x) e (by omega), if_pos h]
    exact EntL.self rfl
  · rw [if_neg h, ← brow_app2 a (iB x) e (by rw [iB_length]; omega), if_neg h, iB_row x _ (by omega)]
    rw [← iB_row x _ (by omega)]
    exact EntL.self rfl
def laypb6 :=
  (And.intro (And.intro (And.intro laypc1 laypc2) (And.intro laypc3 (And.intro @I16.c_length @idrs_len))) (And.intro (And.intro @lrows_length @tab.a23) (And.intro @tab.s23 (And.intro @tab.u23 @tab.u79))))
def laypb7 :=
  (And.intro (And.intro (And.intro laypc1 (And.intro laypc2 laypc3)) (And.intro (And.intro @I16.c_length @bwk_a) (And.intro @eq_self.{1} @forall_const.{1}))) (And.intro (And.intro (And.intro @idrs_len @implies_true.{0}) (And.intro @implies_true.{1} @lrows_length)) (And.intro (And.intro @tab.a23 @tab.s23) (And.intro @tab.u23 @tab.u79))))
def laypb8 :=
  (And.intro (And.intro (And.intro laypc1 (And.intro laypc2 laypc3)) (And.intro @I16.c_length (And.intro @I16.part @al23n))) (And.intro (And.intro @i16n_set (And.intro @idrs_len @lrows_length)) (And.intro (And.intro @tab.a23 @tab.s23) (And.intro @tab.u23 @tab.u79))))
def laypb9 :=
  (And.intro (And.intro (And.intro laypc1 (And.intro laypc2 laypc3)) (And.intro @I16.c_length (And.intro @idrs_len @lrows_length))) (And.intro (And.intro @sSrc_asl (And.intro @ssrc2_row @tab.a23)) (And.intro @tab.s23 (And.intro @tab.u23 @tab.u79))))
set_option maxHeartbeats 4000000 in
theorem ids_lays (l : List I16) (hl : l.length < 4611686018427387904) : Lays 145 [.rsl 16 (idrs l)] (idsB l) := by
  intro acc hb
  unfold ladR bytR
  refine SCall.mk (fn := Try.f145) (by kernel_rfl) rfl (Nat.le_of_ble_eq_true (by kernel_rfl)) ?_
  refine Sem.go (k := 1000) ?_
  simp -dsimp (decide := true) (disch := first | omega | simp (decide := true) only [laypb0]) only [laypb6, ↓brun_b, envOf, Nat.reduceAdd, Nat.reduceBEq]
  refine Sem.weakenM [0, 1, 1] (s' := ⟨22, 2, [(0, .ptr 0 0 0), (6, .rsl 16 (idrs l)), (7, .v (.int .i64 (l.length : Int))), (8, .v (.int .i64 0))], [some (.row ⟨1, 1, true, 222, fun _ => [.slc 2 0 acc.length]⟩), none, some (.row ⟨1, acc.length, true, 5, brow acc⟩)]⟩) ⟨rfl, rfl, rfl, rfl, rfl, rfl, ?_, ?_⟩ ?_
  · simp -dsimp (decide := true) (disch := first | omega | simp (decide := true) only [laypb0]) only [laypb7, ↓brun_b, Nat.reduceAdd, Nat.reduceBEq]
  · simp -dsimp (decide := true) (disch := first | omega | simp (decide := true) only [laypb0]) only [laypb7, Nat.reduceAdd]
  refine Sem.loop (ι := {k : Nat // k ≤ l.length}) (fun k => ⟨22, 2, [(0, .ptr 0 0 0), (6, .rsl 16 (idrs l)), (7, .v (.int .i64 (l.length : Int))), (8, .v (.int .i64 (k.1 : Int)))], [some (.row ⟨1, 1, true, 222, fun _ => [.slc 2 0 (acc ++ idsB (l.take k.1)).length]⟩), none, some (.row ⟨1, (acc ++ idsB (l.take k.1)).length, true, 5, brow (acc ++ idsB (l.take k.1))⟩)]⟩) (fun k => l.length - k.1) ⟨0, Nat.zero_le _⟩ [0, 1, 2] ?_ ?_
  · have h0 : acc ++ idsB (l.take 0) = acc := by simp [idsB]
    (refine Wk.ofC ?_; simp -dsimp (decide := true) (disch := first | omega | simp (decide := true) only [laypb0]) only [laypb7, ↓brun_b, Nat.reduceAdd, Nat.reduceBEq, h0])
  · rintro ⟨k, hk⟩
    refine Sem.go (k := 1000) ?_
    simp -dsimp (decide := true) (disch := first | omega | simp (decide := true) only [laypb0]) only [laypb6, ↓brun_b, Nat.reduceAdd, Nat.reduceBEq]
    refine SCond.split (fun h => ?_) (fun h => ?_)
    · simp only [decide_eq_true_eq] at h
      have hk' : k < l.length := by omega
      have hwk : IntKind.i64.wrap ((k : Int) + 1) = ((k + 1 : Nat) : Int) := by rw [wrap_i64 _ (by omega)]; rfl
      have hft := idsB_take l k hk' I16.zero
      have hlen := idsB_length l
      have hlen2 := idsB_length (l.take k)
      have htk : (l.take k).length = k := by rw [List.length_take]; omega
      have hat := idrs_at l k hk' I16.zero
      simp -dsimp (decide := true) (disch := first | omega | simp (decide := true) only [laypb0]) only [laypb8, ↓brun_b, Nat.reduceAdd, Nat.reduceBEq, Nat.reduceLeDiff, hat]
      generalize l.getD k I16.zero = x at *
      have hacc : (acc ++ idsB (l.take k)).length = acc.length + (idsB (l.take k)).length := List.length_append
      generalize ha : acc ++ idsB (l.take k) = a at *
      refine And.intro (by omega) ?_
      refine Sem.go (k := 1000) ?_
      simp -dsimp (decide := true) (disch := first | omega | simp (decide := true) only [laypb0]) only [laypb8]
      refine Sem.draw' (by kernel_rfl) (.one 0 (.one 1 (.one 2 (.one 3 (.one 5 (.alt 4 (.alt 6 (.one 7 (.one 8 (.alt 9 .done .non))) .non) .non)))))) [0, 2] (by kernel_rfl) (fun G ff hG hf => ?_)
      simp (decide := true) only [laypb3, Nat.reduceAdd] at hG ⊢
      simp -dsimp (decide := true) (disch := first | omega | simp (decide := true) only [laypb0]) only [laypb9, ↓brun_b, Nat.reduceAdd, Nat.reduceBEq, Nat.reduceLeDiff, sapp1_sl el5]
      (repeat' refine And.intro ?_ ?_)
      all_goals first | omega | skip
      all_goals
        refine hf _ (Sem.go (k := 1000) ?_)
        simp (decide := true) only [back_mk, backL_in, backL_row, backL_none, backL_nil, Nat.zero_add, Nat.reduceAdd]
        simp -dsimp (decide := true) (disch := first | omega | simp (decide := true) only [laypb0]) only [laypb6, ↓brun_b, Nat.reduceAdd, Nat.reduceBEq, hwk]
        refine ⟨⟨k + 1, by omega⟩, [0, 1, 4], ?_, by show l.length - (k + 1) < l.length - k; omega⟩
        have hl3 : (a ++ iB x).length = a.length + 16 := by rw [List.length_append, iB_length]
        have hstep : acc ++ idsB (l.take (k + 1)) = a ++ iB x := by rw [hft, ← List.append_assoc, ha]
        (refine Wk.ofC ?_; simp -dsimp (decide := true) (disch := first | omega | simp (decide := true) only [laypb0]) only [laypb7, ↓brun_b, Nat.reduceAdd, Nat.reduceBEq, hstep, hl3])
        exact fun e he => app_id a x e he
    · simp only [decide_eq_false_iff_not] at h
      obtain rfl : k = l.length := by omega
      have hft : l.take l.length = l := List.take_length
      simp -dsimp (decide := true) (disch := first | omega | simp (decide := true) only [laypb0]) only [laypb6, reduceIte, hft]
      refine SQ.fin (SQ.runL (rs := []) [0, 1, 2] (.tup []) _ rfl (And.intro rfl rfl) (by decide) rfl rfl ?_ ?_)
      · simp -dsimp (decide := true) (disch := first | omega | simp (decide := true) only [laypb0]) only [laypb7, Nat.reduceAdd]
      · simp -dsimp (decide := true) (disch := first | omega | simp (decide := true) only [laypb0]) only [laypb7, ↓brun_b, Nat.reduceAdd]
        exact Ent.eq rfl
end Go.Proofs
namespace Go.SL
open Go
end Go.SL
namespace Go.Proofs
open Go Go.SL
set_option maxRecDepth 100000
def icells (l : List Int) : List SV := l.map fun c => SV.v (.int .i64 c)
theorem ent_icells {fz : Nat → Option SB} {ρ : Nat → Nat} {l : List Int} {i : Nat} {r : List SV} (h : (lrows l)[i]? = some r) : EntL fz ρ r (((icells l).drop (0 + i)).take 1) := by
  unfold lrows at h
  rw [List.getElem?_map] at h
  obtain ⟨x, hx, rfl⟩ := Option.map_eq_some_iff.1 h
  have hi := (List.getElem?_eq_some_iff.1 hx).1
  have e : l[i] = x := (List.getElem?_eq_some_iff.1 hx).2
  have h1 : (l.drop i).take 1 = [l[i]] := by rw [List.drop_eq_getElem_cons hi]; rfl
  rw [Nat.zero_add, icells, ← List.map_drop, ← List.map_take, h1, e]
  exact EntL.self rfl
theorem bs69_1 (N : Nat) (a : Int) : sBuildSlice Try.prog N 69 1 [(0, .v (.int .i64 a))] = some ⟨.slc N 0 1, ⟨none, some (.row ⟨1, 1, true, 2, fun e => ((icells [a]).drop (e * 1)).take 1⟩)⟩, True⟩ := by kernel_rfl
theorem ent_id1 {fz : Nat → Option SB} {ρ : Nat → Nat} {x : I16} {i : Nat} {r : List SV} (h : (idrs [x])[i]? = some r) : EntL fz ρ r ((x.c.drop ((0 + i) * 16)).take 16) := by
  cases i with
  | zero =>
    have : r = x.c := by simpa [idrs] using h.symm
    subst this
    rw [Nat.zero_add, Nat.zero_mul, List.drop_zero, List.take_of_length_le (by rw [I16.c_length]; exact Nat.le_refl _)]
    exact EntL.self (I16.flat _)
  | succ i => simp [idrs] at h
end Go.Proofs
namespace Go.Proofs
open Go Go.SL
set_option maxRecDepth 100000
theorem sp17a (a : I16) (v : SV) : spart true (a.c ++ [v]) 0 16 = .agg a.c := by simp [spart, I16.c_length]
theorem cl17 (a : I16) (v : SV) : cellAt (a.c ++ [v]) 16 = v := cellAt_get _ _ _ (by simp [I16.c_length])
theorem N_le (n : Int) (hn : 0 ≤ n ∧ n < 9223372036854775808) : (N n).length ≤ 9 := by
  unfold N
  rw [form_length]
  have := wide_le8 n.toNat (by omega)
  omega
theorem idsB_one (x : I16) : idsB [x] = iB x := by simp [idsB]
theorem nB_one (n : Int) : nB [n] = N n := by simp [nB]
theorem idLay1 (x : I16) : Lays 145 [.rsl 16 (idrs [x])] (iB x) := by
  have := ids_lays [x] (by show 1 < 4611686018427387904; decide)
  rw [idsB_one] at this
  exact this
theorem numLay1 (n : Int) (hn : 0 ≤ n ∧ n < 9223372036854775808) : Lays 144 [.rsl 1 (lrows [n])] (N n) := by
  have := num_lays [n] (by simpa using hn) (by show 1 < 4611686018427387904; decide)
  rw [nB_one] at this
  exact this
def laypb10 :=
  (And.intro (And.intro (And.intro laypc0 @I16.c_length) (And.intro @IC.c_length @IC.one)) (And.intro (And.intro @bsl_flat @idrs_len) (And.intro @lrows_length (And.intro @p144_len @p144_one))))
def laypb11 :=
  (And.intro (And.intro (And.intro (And.intro laypc1 laypc2) (And.intro @I16.c_length (And.intro @I16.part @al23n))) (And.intro (And.intro @bs69_1 (And.intro @bs79 @cl17)) (And.intro @i16n_set (And.intro @idrs_len @lrows_length)))) (And.intro (And.intro (And.intro @p144_len (And.intro @sp17a @tab.a2)) (And.intro @tab.a23 (And.intro @tab.f144x0 @tab.f144x1))) (And.intro (And.intro @tab.s2 (And.intro @tab.s23 @tab.u2)) (And.intro @tab.u23 (And.intro @tab.u69 @tab.u79)))))
def laypb12 :=
  (And.intro (And.intro (And.intro (And.intro laypc1 (And.intro laypc2 @I16.c_length)) (And.intro (And.intro @I16.part @al23n) (And.intro @bs69_1 @bs79))) (And.intro (And.intro @bwk_a (And.intro @cl17 @eq_self.{1})) (And.intro (And.intro @forall_const.{1} @i16n_set) (And.intro @idrs_len @implies_true.{0})))) (And.intro (And.intro (And.intro @implies_true.{1} (And.intro @lrows_length @p144_len)) (And.intro (And.intro @sp17a @tab.a2) (And.intro @tab.a23 @tab.f144x0))) (And.intro (And.intro @tab.f144x1 (And.intro @tab.s2 @tab.s23)) (And.intro (And.intro @tab.u2 @tab.u23) (And.intro @tab.u69 @tab.u79)))))
def laypb13 :=
  (And.intro (And.intro (And.intro laypc2 @tab.a2) (And.intro @tab.a23 (And.intro @tab.f144x0 @tab.f144x1))) (And.intro (And.intro @tab.s2 (And.intro @tab.s23 @tab.u2)) (And.intro @tab.u23 (And.intro @tab.u69 @tab.u79))))
set_option maxHeartbeats 4000000 in
theorem path_lays (who : I16) (n : Int) (hn : 0 ≤ n ∧ n < 9223372036854775808) : Lays 146 [.agg (who.c ++ [.v (.int .i64 n)])] (iB who ++ N n) := by
  intro acc hb
  rw [List.length_append, iB_length] at hb
  have c1 := idLay1 who acc (by rw [iB_length]; omega)
  have c2 := numLay1 n hn (acc ++ iB who) (by rw [List.length_append, iB_length]; omega)
  unfold ladR bytR at *
  refine SCall.mk (fn := Try.f146) (by kernel_rfl) rfl (Nat.le_of_ble_eq_true (by kernel_rfl)) ?_
  refine Sem.go (k := 1000) ?_
  simp -dsimp (decide := true) (disch := first | omega | simp (decide := true) only [laypb10]) only [laypb11, ↓brun_b, envOf, Nat.reduceAdd, Nat.reduceBEq]
  refine SemOps.frz (d := 7) (idrs [who]) rfl rfl rfl (by omega) (fun i r h => ent_id1 h) ?_
  refine SemOps.callw [0, 1] cal.f145 (c1) rfl rfl rfl (by simp -dsimp (decide := true) (disch := first | omega | simp (decide := true) only [laypb10]) only [laypb12, ↓brun_b, Nat.reduceAdd, Nat.reduceBEq]) rfl (by simp -dsimp (decide := true) (disch := first | omega | simp (decide := true) only [laypb10]) only [laypb12, Nat.reduceAdd]) (by simp -dsimp (decide := true) (disch := first | omega | simp (decide := true) only [laypb10]) only [laypb13]) ?_
  refine SemOps.go (k := 1000) ?_
  simp -dsimp (decide := true) (disch := first | omega | simp (decide := true) only [laypb10]) only [laypb11, ↓brun_b, Nat.reduceAdd, Nat.reduceBEq, rho]
  refine SemOps.frz (d := 12) (lrows [n]) rfl rfl rfl (by omega) (fun i r h => ent_icells h) ?_
  refine SemOps.callw [0, 4] cal.f144 (c2) rfl rfl rfl (by simp -dsimp (decide := true) (disch := first | omega | simp (decide := true) only [laypb10]) only [laypb12, ↓brun_b, Nat.reduceAdd, Nat.reduceBEq]) rfl (by simp -dsimp (decide := true) (disch := first | omega | simp (decide := true) only [laypb10]) only [laypb12, Nat.reduceAdd]) (by simp -dsimp (decide := true) (disch := first | omega | simp (decide := true) only [laypb10]) only [laypb13]) ?_
  refine SemOps.go (k := 1000) ?_
  simp -dsimp (decide := true) (disch := first | omega | simp (decide := true) only [laypb10]) only [laypb11, Nat.reduceAdd, rho]
  refine SQ.fin (SQ.runL (rs := []) [0, 1, 6] (.tup []) _ rfl (And.intro rfl rfl) (by decide) rfl rfl ?_ ?_)
  · simp -dsimp (decide := true) (disch := first | omega | simp (decide := true) only [laypb10]) only [laypb12, Nat.reduceAdd, List.append_assoc]
  · simp -dsimp (decide := true) (disch := first | omega | simp (decide := true) only [laypb10]) only [laypb12, ↓brun_b, Nat.reduceAdd]
    exact Ent.eq rfl
end Go.Proofs
namespace Go.Proofs
open Go Go.SL
set_option maxRecDepth 100000
end Go.Proofs
