/- Contracts of functions that the laws reach, on abstract values, and what they need: no conditions but those that each theorem states. -/
import Derived.Test.YtheodenjjaoncaaDecP2
import Derived.Test.YtheodenjjaoncaaWirR
import Derived.Test.YtheodenjjaoncaaFcP
set_option linter.unusedVariables false
set_option linter.unusedSimpArgs false
set_option linter.defProp false
namespace Go.Proofs
open Go Go.SL
set_option maxRecDepth 100000
def ladR (i : Nat) (b : List UInt8) : Option SK := some (.row ⟨1, 1, true, 222, fun _ => [.slc i 0 b.length]⟩)
def bytR (b : List UInt8) : Option SK := some (.row ⟨1, b.length, true, 5, brow b⟩)
def Lays (f : FuncId) (more : List SV) (add : List UInt8) : Prop :=
  ∀ acc : List UInt8, acc.length + add.length ≤ 140737488355328 → SCall Try.prog f (.ptr 0 0 0 :: more) [ladR 1 acc, bytR acc] fun r L => r = .ret (.tup []) ∧ L = [ladR 2 (acc ++ add), none, bytR (acc ++ add)]
def nB (ns : List Int) : List UInt8 := ns.flatMap N
theorem nB_take (ns : List Int) (k : Nat) (h : k < ns.length) : nB (ns.take (k + 1)) = nB (ns.take k) ++ N (ns.getD k 0) := by
  unfold nB
  rw [List.take_add_one, List.flatMap_append, List.getD_eq_getElem?_getD, List.getElem?_eq_getElem h]
  simp
theorem nB_le (ns : List Int) (k : Nat) : (nB (ns.take k)).length ≤ (nB ns).length := by
  have : nB ns = nB (ns.take k) ++ nB (ns.drop k) := by unfold nB; rw [← List.flatMap_append, List.take_append_drop]
  rw [this, List.length_append]
  omega
def laypc0 :=
  (aI (aI @I16.flat @brow_flat) (aI @idrs_flat (aI @lrows_flat @urows.flat)))
def laypb0 :=
  (aI (aI laypc0 (aI @I16.c_length @I16.one)) (aI @bdset_a (aI @idrs_len @lrows_length)))
def laypc1 :=
  (aI (aI (aI @Int.cast_ofNat_Int (aI @SKren_row @after_mk)) (aI @cellAt_succ (aI @cellAt_zero @mergeL_done))) (aI (aI @mergeL_own (aI @renL_cons @renL_flat)) (aI (aI @renL_nil @ren_tup) (aI @splice_0 @splice_c))))
def laypc2 :=
  (aI (aI @beq_self_eq_true.{0} @brun_a) (aI @cond_false.{1} @cond_true.{1}))
def laypb1 :=
  (aI (aI (aI laypc1 (aI laypc2 @lrows_length)) (aI (aI @tab.a2 @tab.a3) (aI @tab.a35 @tab.f222x0))) (aI (aI (aI @tab.s2 @tab.s3) (aI @tab.s35 @tab.s5)) (aI (aI @tab.u2 @tab.u35) (aI @tab.u36 @tab.u69))))
def laypb2 :=
  (aI (aI (aI (aI laypc1 laypc2) (aI @bwk_a (aI @eq_self.{1} @forall_const.{1}))) (aI (aI @implies_true.{0} @implies_true.{1}) (aI @lrows_length (aI @tab.a2 @tab.a3)))) (aI (aI (aI @tab.a35 @tab.f222x0) (aI @tab.s2 (aI @tab.s3 @tab.s35))) (aI (aI @tab.s5 @tab.u2) (aI @tab.u35 (aI @tab.u36 @tab.u69)))))
def laypb3 :=
  (aI (aI (aI @List.length_cons.{0} @List.length_nil.{0}) (aI @Nat.zero_add @roL_in)) (aI (aI @roL_nil @roL_none) (aI @roL_row @ro_mk)))
def laypb4 :=
  (aI (aI (aI (aI laypc1 laypc2) (aI @bs43_1 @lrows_length)) (aI (aI @tab.a2 @tab.a3) (aI @tab.a35 @tab.f222x0))) (aI (aI (aI @tab.s2 @tab.s3) (aI @tab.s35 @tab.s5)) (aI (aI @tab.u2 @tab.u35) (aI @tab.u36 @tab.u69))))
def laypb5 :=
  (aI (aI (aI laypc2 (aI @tab.a2 @tab.a3)) (aI @tab.a35 (aI @tab.f222x0 @tab.s2))) (aI (aI @tab.s3 (aI @tab.s35 @tab.s5)) (aI (aI @tab.u2 @tab.u35) (aI @tab.u36 @tab.u69))))
theorem num_lays (ns : List Int) (hn : ∀ n ∈ ns, 0 ≤ n ∧ n < 9223372036854775808) (hl : ns.length < 4611686018427387904) : Lays 144 [.rsl 1 (lrows ns)] (nB ns) := by
  intro acc hb
  unfold ladR bytR
  refine SCall.mk (fn := Try.f144) (by kernel_rfl) rfl (Nat.le_of_ble_eq_true (by kernel_rfl)) ?_
  refine goC ?_
  simp -dsimp +decide (disch := first | omega | simp +decide only [laypb0]) only [laypb1, ↓brun_b, envOf, Nat.reduceAdd, Nat.reduceBEq]
  refine Sem.weakenM [0, 1, 1] (s' := ⟨25, 2, [(0, .ptr 0 0 0), (6, .rsl 1 (lrows ns)), (7, .v (.int .i64 (ns.length : Int))), (8, .v (.int .i64 0))], [some (.row ⟨1, 1, true, 222, fun _ => [.slc 2 0 acc.length]⟩), none, some (.row ⟨1, acc.length, true, 5, brow acc⟩)]⟩) ⟨rfl, rfl, rfl, rfl, rfl, rfl, ?_, ?_⟩ ?_
  · simp -dsimp +decide (disch := first | omega | simp +decide only [laypb0]) only [laypb2, ↓brun_b, Nat.reduceAdd, Nat.reduceBEq]
  · simp -dsimp +decide (disch := first | omega | simp +decide only [laypb0]) only [laypb2, Nat.reduceAdd]
  refine Sem.loop (ι := {k : Nat // k ≤ ns.length}) (fun k => ⟨25, 2, [(0, .ptr 0 0 0), (6, .rsl 1 (lrows ns)), (7, .v (.int .i64 (ns.length : Int))), (8, .v (.int .i64 (k.1 : Int)))], [some (.row ⟨1, 1, true, 222, fun _ => [.slc 2 0 (acc ++ nB (ns.take k.1)).length]⟩), none, some (.row ⟨1, (acc ++ nB (ns.take k.1)).length, true, 5, brow (acc ++ nB (ns.take k.1))⟩)]⟩) (fun k => ns.length - k.1) ⟨0, Nat.zero_le _⟩ [0, 1, 2] ?_ ?_
  · have h0 : acc ++ nB (ns.take 0) = acc := by simp [nB]
    (refine Wk.ofC ?_; simp -dsimp +decide (disch := first | omega | simp +decide only [laypb0]) only [laypb2, ↓brun_b, Nat.reduceAdd, Nat.reduceBEq, h0])
  · rintro ⟨k, hk⟩
    refine goC ?_
    simp -dsimp +decide (disch := first | omega | simp +decide only [laypb0]) only [laypb1, ↓brun_b, Nat.reduceAdd, Nat.reduceBEq]
    refine SCond.split (fun h => ?_) (fun h => ?_)
    · simp only [decide_eq_true_eq] at h
      have hk' : k < ns.length := by omega
      have hwk : IntKind.i64.wrap ((k : Int) + 1) = ((k + 1 : Nat) : Int) := by rw [wrap_i64 _ (by omega)]; rfl
      have hft := nB_take ns k hk'
      have hle := nB_le ns (k + 1)
      have hat := lrows_at ns k hk'
      have hmem : ns.getD k 0 ∈ ns := by rw [List.getD_eq_getElem?_getD, List.getElem?_eq_getElem hk', Option.getD_some]; exact List.getElem_mem hk'
      have hnn := hn _ hmem
      rw [hft, List.length_append] at hle
      simp -dsimp +decide (disch := first | omega | simp +decide only [laypb0]) only [laypb1, ↓brun_b, Nat.reduceAdd, Nat.reduceBEq, Nat.reduceLeDiff, hat, lrow]
      generalize ns.getD k 0 = x at *
      have hacc : (acc ++ nB (ns.take k)).length = acc.length + (nB (ns.take k)).length := List.length_append
      have hnx : (N x).length ≤ 9 := by
        unfold N
        rw [form_length]
        have := wide_le8 x.toNat (by omega)
        omega
      generalize ha : acc ++ nB (ns.take k) = a at *
      obtain ⟨m, rfl⟩ : ∃ m : Nat, x = (m : Int) := ⟨x.toNat, by omega⟩
      have hN : N (m : Int) = form m := by simp [N]
      rw [hN] at hft hle hnx
      have hwu : IntKind.u64.wrap (m : Int) = (m : Int) := wrap_u64 _ (by omega)
      have hln : ∀ n ∈ [m], n < 18446744073709551616 := fun n hn => by
        rw [List.mem_singleton.1 hn]
        omega
      refine And.intro (by omega) ?_
      refine goC ?_
      simp -dsimp +decide (disch := first | omega | simp +decide only [laypb0]) only [laypb1]
      refine Sem.draw' (by kernel_rfl) (.one 0 (.one 1 (.one 2 (.one 3 (.one 5 (.one 6 (.alt 4 (.alt 7 (.alt 8 (.alt 9 (.one 10 (.one 11 (.alt 12 .done .non))) .non) .non) .non) (.alt 7 (.alt 4 (.alt 8 (.alt 9 (.one 10 (.one 11 (.alt 12 .done .non))) .non) .non) (.alt 8 (.alt 4 (.alt 9 (.one 10 (.one 11 (.alt 12 .done .non))) .non) .non) .non)) .non)))))))) [0, 2] (by kernel_rfl) (fun G ff hG hf => ?_)
      simp +decide only [laypb3, Nat.reduceAdd] at hG ⊢
      simp -dsimp +decide (disch := first | omega | simp +decide only [laypb0]) only [laypb4, ↓brun_b, Nat.reduceAdd, Nat.reduceBEq, hwu]
      have hl9 : [m].length * 9 ≤ 140737488355328 := by rw [List.length_singleton]; decide
      have hfm : ([m].flatMap form) = form m := by simp
      (repeat' refine And.intro ?_ ?_)
      all_goals
        refine OpSem.frz (d := 19) (urows [m]) rfl rfl rfl (by omega) (fun i r h => ent_ucells h) ?_
        refine OpSem.callq cal.f44 (putNum_calls [m] hln hl9) rfl rfl rfl (by simp only [bflat_a, urows.flat]) (by simp only [bflat_a]) (dK rfl) ?_
        simp -dsimp +decide (disch := first | omega | simp +decide only [laypb0]) only [laypb1, ↓brun_b, Nat.reduceAdd, Nat.reduceBEq, hfm, sapp1_sl el5]
        (repeat' refine And.intro ?_ ?_)
        all_goals first | omega | skip
        all_goals
          refine hf _ (Sem.go (k := 1000) ?_)
          simp +decide only [back_mk, backL_in, backL_none, backL_nil, Nat.zero_add, Nat.reduceAdd]
          simp -dsimp +decide (disch := first | omega | simp +decide only [laypb0]) only [laypb1, ↓brun_b, Nat.reduceAdd, Nat.reduceBEq, hwk]
          refine ⟨⟨k + 1, by omega⟩, [0, 1, 4], ?_, by show ns.length - (k + 1) < ns.length - k; omega⟩
          have hl3 : (a ++ form m).length = a.length + (form m).length := List.length_append
          have hstep : acc ++ nB (ns.take (k + 1)) = a ++ form m := by rw [hft, ← List.append_assoc, ha]
          (refine Wk.ofC ?_; simp -dsimp +decide (disch := first | omega | simp +decide only [laypb0]) only [laypb2, ↓brun_b, Nat.reduceAdd, Nat.reduceBEq, hstep, hl3])
          intro e he
          rw [brow_app2r _ _ _ he]
          exact EntL.self rfl
    · simp only [decide_eq_false_iff_not] at h
      obtain rfl : k = ns.length := by omega
      have hft : ns.take ns.length = ns := List.take_length
      simp -dsimp +decide (disch := first | omega | simp +decide only [laypb0]) only [laypb1, reduceIte, hft]
      refine SQ.fin (SQ.runL (rs := []) [0, 1, 2] (.tup []) _ rfl (And.intro rfl rfl) (by decide) rfl rfl ?_ ?_)
      · simp -dsimp +decide (disch := first | omega | simp +decide only [laypb0]) only [laypb2, Nat.reduceAdd]
      · simp -dsimp +decide (disch := first | omega | simp +decide only [laypb0]) only [laypb2, ↓brun_b, Nat.reduceAdd]
        exact Ent.eq rfl
end Go.Proofs
namespace Go.SL
open Go
def ssrc2 (K : Option SK) (size e k n : Nat) : Option Src := match K with
  | some (.row B) => if size = 1 then some ⟨n, fun i => [cellAt (B.el e) (k + i)], e < B.n ∧ k + n ≤ B.size⟩ else none
  | _ => none
theorem sSrc_asl (get : Nat → Option SK) (size b e k n : Nat) : sSrc get size (.asl b e k n) = ssrc2 (get b) size e k n := Eq.trans rfl rfl
theorem ssrc2_row (z m : Nat) (own : Bool) (ty : TypeId) (el : Nat → List SV) (e k n : Nat) : ssrc2 (some (.row ⟨z, m, own, ty, el⟩)) 1 e k n = some ⟨n, fun i => [cellAt (el e) (k + i)], e < m ∧ k + n ≤ z⟩ := Eq.trans rfl rfl
end Go.SL
namespace Go.Proofs
open Go Go.SL
set_option maxRecDepth 100000
theorem iB_row (x : I16) (i : Nat) (h : i < 16) : brow (iB x) i = [cellAt x.c i] := by
  have hi : i < x.l.length := by rw [x.len]; exact h
  have h1 : cellAt x.c i = .v (.int .u8 (x.l.getD i 0)) := by
    unfold I16.c
    exact cellAt_map x.l i hi
  have h2 := x.rng (x.l[i]) (List.getElem_mem hi)
  rw [h1]
  unfold brow iB
  rw [List.getD_eq_getElem?_getD, List.getD_eq_getElem?_getD, List.getElem?_map, List.getElem?_eq_getElem hi]
  simp only [Option.map_some, Option.getD_some, UInt8.toNat_ofNat']
  congr 3
  omega
theorem idsB_take (l : List I16) (k : Nat) (h : k < l.length) (d : I16) : idsB (l.take (k + 1)) = idsB (l.take k) ++ iB (l.getD k d) := by
  induction l generalizing k with
  | nil => simp at h
  | cons x l ih =>
    cases k with
    | zero => simp [idsB]
    | succ k =>
      simp only [List.take_succ_cons, idsB, List.getD_cons_succ]
      rw [ih k (by simpa using h), List.append_assoc]
theorem idsB_length (l : List I16) : (idsB l).length = 16 * l.length := by
  induction l with
  | nil => rfl
  | cons x l ih => rw [idsB, List.length_append, iB_length, ih, List.length_cons]; omega
theorem app_id {fz : Nat → Option SB} {ρ : Nat → Nat} (a : List UInt8) (x : I16) (e : Nat) (he : e < a.length + 16) : EntL fz ρ (brow (a ++ iB x) e) (if e < a.length then brow a e else [cellAt x.c (e - a.length)]) := by
  by_cases h : e < a.length
  · rw [if_pos h, ← brow_app2 a (iB x) e (by omega), if_pos h]
    exact EntL.self rfl
  · rw [if_neg h, ← brow_app2 a (iB x) e (by rw [iB_length]; omega), if_neg h, iB_row x _ (by omega)]
    rw [← iB_row x _ (by omega)]
    exact EntL.self rfl
def laypb6 :=
  (aI (aI (aI (aI laypc1 laypc2) (aI @I16.c_length @idrs_len)) (aI (aI @lrows_length @tab.a23) (aI @tab.a3 @tab.a35))) (aI (aI (aI @tab.f222x0 @tab.s23) (aI @tab.s3 @tab.s35)) (aI (aI @tab.s5 @tab.u23) (aI @tab.u35 @tab.u79))))
def laypb7 :=
  (aI (aI (aI (aI laypc1 laypc2) (aI @I16.c_length (aI @bwk_a @eq_self.{1}))) (aI (aI @forall_const.{1} @idrs_len) (aI @implies_true.{0} (aI @implies_true.{1} @lrows_length)))) (aI (aI (aI @tab.a23 @tab.a3) (aI @tab.a35 (aI @tab.f222x0 @tab.s23))) (aI (aI @tab.s3 (aI @tab.s35 @tab.s5)) (aI @tab.u23 (aI @tab.u35 @tab.u79)))))
def laypb8 :=
  (aI (aI (aI (aI laypc1 laypc2) (aI @I16.c_length @I16.part)) (aI (aI @al23n @i16n_set) (aI @idrs_len (aI @lrows_length @tab.a23)))) (aI (aI (aI @tab.a3 @tab.a35) (aI @tab.f222x0 (aI @tab.s23 @tab.s3))) (aI (aI @tab.s35 @tab.s5) (aI @tab.u23 (aI @tab.u35 @tab.u79)))))
def laypb9 :=
  (aI (aI (aI (aI laypc1 laypc2) (aI @I16.c_length @idrs_len)) (aI (aI @lrows_length @sSrc_asl) (aI @ssrc2_row (aI @tab.a23 @tab.a3)))) (aI (aI (aI @tab.a35 @tab.f222x0) (aI @tab.s23 @tab.s3)) (aI (aI @tab.s35 @tab.s5) (aI @tab.u23 (aI @tab.u35 @tab.u79)))))
set_option maxHeartbeats 4000000 in
theorem ids_lays (l : List I16) (hl : l.length < 4611686018427387904) : Lays 145 [.rsl 16 (idrs l)] (idsB l) := by
  intro acc hb
  unfold ladR bytR
  refine SCall.mk (fn := Try.f145) (by kernel_rfl) rfl (Nat.le_of_ble_eq_true (by kernel_rfl)) ?_
  refine goC ?_
  simp -dsimp +decide (disch := first | omega | simp +decide only [laypb0]) only [laypb6, ↓brun_b, envOf, Nat.reduceAdd, Nat.reduceBEq]
  refine Sem.weakenM [0, 1, 1] (s' := ⟨22, 2, [(0, .ptr 0 0 0), (6, .rsl 16 (idrs l)), (7, .v (.int .i64 (l.length : Int))), (8, .v (.int .i64 0))], [some (.row ⟨1, 1, true, 222, fun _ => [.slc 2 0 acc.length]⟩), none, some (.row ⟨1, acc.length, true, 5, brow acc⟩)]⟩) ⟨rfl, rfl, rfl, rfl, rfl, rfl, ?_, ?_⟩ ?_
  · simp -dsimp +decide (disch := first | omega | simp +decide only [laypb0]) only [laypb7, ↓brun_b, Nat.reduceAdd, Nat.reduceBEq]
  · simp -dsimp +decide (disch := first | omega | simp +decide only [laypb0]) only [laypb7, Nat.reduceAdd]
  refine Sem.loop (ι := {k : Nat // k ≤ l.length}) (fun k => ⟨22, 2, [(0, .ptr 0 0 0), (6, .rsl 16 (idrs l)), (7, .v (.int .i64 (l.length : Int))), (8, .v (.int .i64 (k.1 : Int)))], [some (.row ⟨1, 1, true, 222, fun _ => [.slc 2 0 (acc ++ idsB (l.take k.1)).length]⟩), none, some (.row ⟨1, (acc ++ idsB (l.take k.1)).length, true, 5, brow (acc ++ idsB (l.take k.1))⟩)]⟩) (fun k => l.length - k.1) ⟨0, Nat.zero_le _⟩ [0, 1, 2] ?_ ?_
  · have h0 : acc ++ idsB (l.take 0) = acc := by simp [idsB]
    (refine Wk.ofC ?_; simp -dsimp +decide (disch := first | omega | simp +decide only [laypb0]) only [laypb7, ↓brun_b, Nat.reduceAdd, Nat.reduceBEq, h0])
  · rintro ⟨k, hk⟩
    refine goC ?_
    simp -dsimp +decide (disch := first | omega | simp +decide only [laypb0]) only [laypb6, ↓brun_b, Nat.reduceAdd, Nat.reduceBEq]
    refine SCond.split (fun h => ?_) (fun h => ?_)
    · simp only [decide_eq_true_eq] at h
      have hk' : k < l.length := by omega
      have hwk : IntKind.i64.wrap ((k : Int) + 1) = ((k + 1 : Nat) : Int) := by rw [wrap_i64 _ (by omega)]; rfl
      have hft := idsB_take l k hk' I16.zero
      have hlen := idsB_length l
      have hlen2 := idsB_length (l.take k)
      have htk : (l.take k).length = k := by rw [List.length_take]; omega
      have hat := idrs_at l k hk' I16.zero
      simp -dsimp +decide (disch := first | omega | simp +decide only [laypb0]) only [laypb8, ↓brun_b, Nat.reduceAdd, Nat.reduceBEq, Nat.reduceLeDiff, hat]
      generalize l.getD k I16.zero = x at *
      have hacc : (acc ++ idsB (l.take k)).length = acc.length + (idsB (l.take k)).length := List.length_append
      generalize ha : acc ++ idsB (l.take k) = a at *
      refine And.intro (by omega) ?_
      refine goC ?_
      simp -dsimp +decide (disch := first | omega | simp +decide only [laypb0]) only [laypb8]
      refine Sem.draw' (by kernel_rfl) (.one 0 (.one 1 (.one 2 (.one 3 (.one 5 (.alt 4 (.alt 6 (.one 7 (.one 8 (.alt 9 .done .non))) .non) .non)))))) [0, 2] (by kernel_rfl) (fun G ff hG hf => ?_)
      simp +decide only [laypb3, Nat.reduceAdd] at hG ⊢
      simp -dsimp +decide (disch := first | omega | simp +decide only [laypb0]) only [laypb9, ↓brun_b, Nat.reduceAdd, Nat.reduceBEq, Nat.reduceLeDiff, sapp1_sl el5]
      (repeat' refine And.intro ?_ ?_)
      all_goals first | omega | skip
      all_goals
        refine hf _ (Sem.go (k := 1000) ?_)
        simp +decide only [back_mk, backL_in, backL_row, backL_none, backL_nil, Nat.zero_add, Nat.reduceAdd]
        simp -dsimp +decide (disch := first | omega | simp +decide only [laypb0]) only [laypb6, ↓brun_b, Nat.reduceAdd, Nat.reduceBEq, hwk]
        refine ⟨⟨k + 1, by omega⟩, [0, 1, 4], ?_, by show l.length - (k + 1) < l.length - k; omega⟩
        have hl3 : (a ++ iB x).length = a.length + 16 := by rw [List.length_append, iB_length]
        have hstep : acc ++ idsB (l.take (k + 1)) = a ++ iB x := by rw [hft, ← List.append_assoc, ha]
        (refine Wk.ofC ?_; simp -dsimp +decide (disch := first | omega | simp +decide only [laypb0]) only [laypb7, ↓brun_b, Nat.reduceAdd, Nat.reduceBEq, hstep, hl3])
        exact fun e he => app_id a x e he
    · simp only [decide_eq_false_iff_not] at h
      obtain rfl : k = l.length := by omega
      have hft : l.take l.length = l := List.take_length
      simp -dsimp +decide (disch := first | omega | simp +decide only [laypb0]) only [laypb6, reduceIte, hft]
      refine SQ.fin (SQ.runL (rs := []) [0, 1, 2] (.tup []) _ rfl (And.intro rfl rfl) (by decide) rfl rfl ?_ ?_)
      · simp -dsimp +decide (disch := first | omega | simp +decide only [laypb0]) only [laypb7, Nat.reduceAdd]
      · simp -dsimp +decide (disch := first | omega | simp +decide only [laypb0]) only [laypb7, ↓brun_b, Nat.reduceAdd]
        exact Ent.eq rfl
end Go.Proofs
namespace Go.SL
open Go
theorem buildSlice_two {P : Program} {N : Nat} {t elem : TypeId} {s : Nat} {zs : List Value} (h : P.underlying t = some (.slice elem)) (hs : tsz P elem = some s) (hz : tzero P elem = some zs) (h1 : 0 < s) (h2 : zs.length = s) (h3 : 2 * s ≤ 16777216) (l1 l2 : List SV) (x1 x2 : SV) (hx1 : x1.cells = some l1) (hx2 : x2.cells = some l2) (hl1 : l1.length = s) (hl2 : l2.length = s) (ho1 : l1.all SV.one = true) (ho2 : l2.all SV.one = true) :
    sBuildSlice P N t 2 [(0, x1), (1, x2)] = some ⟨.slc N 0 2, ⟨none, some (.row ⟨s, 2, true, elem, fun e => ((l1 ++ l2).drop (e * s)).take s⟩)⟩, True⟩ := by
  have e1 : (zerosOf zs 2).length = 2 * s := by simp [zerosOf, h2]; omega
  unfold sBuildSlice
  simp only [h, hs, hz]
  rw [if_pos ⟨h1, h2, h3⟩]
  have e2 : sfill (fun i => some (i * s, s)) (zerosOf zs 2) [(0, x1), (1, x2)] = some (l1 ++ l2) := by
    have e3 : (splice (zerosOf zs 2) (0 * s) l1).length = 2 * s := by simp [splice, e1, hl1]; omega
    rw [sfill_cons, hx1, sfill1_some _ _ _ _ _ _ hl1 (by omega), sfill_cons, hx2, sfill1_some _ _ _ _ _ _ hl2 (by omega), sfill_nil]
    congr 1
    have e4 : splice (zerosOf zs 2) (0 * s) l1 = l1 ++ (zerosOf zs 2).drop s := by simp [splice, hl1]
    rw [e4, splice, Nat.one_mul, List.take_left' hl1, hl2, List.drop_append, List.drop_of_length_le (by omega), hl1, List.nil_append, List.drop_drop, List.drop_of_length_le (by rw [e1]; omega), List.append_nil]
  simp only [e2]
  rw [if_pos (by rw [List.all_append, ho1, ho2]; rfl)]
end Go.SL
namespace Go.Proofs
open Go Go.SL
set_option maxRecDepth 100000
def icells (l : List Int) : List SV := l.map fun c => SV.v (.int .i64 c)
theorem ent_icells {fz : Nat → Option SB} {ρ : Nat → Nat} {l : List Int} {i : Nat} {r : List SV} (h : (lrows l)[i]? = some r) : EntL fz ρ r (((icells l).drop (0 + i)).take 1) := by
  unfold lrows at h
  rw [List.getElem?_map] at h
  obtain ⟨x, hx, rfl⟩ := Option.map_eq_some_iff.1 h
  have hi := (List.getElem?_eq_some_iff.1 hx).1
  have e : l[i] = x := (List.getElem?_eq_some_iff.1 hx).2
  have h1 : (l.drop i).take 1 = [l[i]] := by rw [List.drop_eq_getElem_cons hi]; rfl
  rw [Nat.zero_add, icells, ← List.map_drop, ← List.map_take, h1, e]
  exact EntL.self rfl
theorem bs69_1 (N : Nat) (a : Int) : sBuildSlice Try.prog N 69 1 [(0, .v (.int .i64 a))] = some ⟨.slc N 0 1, ⟨none, some (.row ⟨1, 1, true, 2, fun e => ((icells [a]).drop (e * 1)).take 1⟩)⟩, True⟩ := by kernel_rfl
theorem bs69_2 (N : Nat) (a b : Int) : sBuildSlice Try.prog N 69 2 [(0, .v (.int .i64 a)), (1, .v (.int .i64 b))] = some ⟨.slc N 0 2, ⟨none, some (.row ⟨1, 2, true, 2, fun e => ((icells [a, b]).drop (e * 1)).take 1⟩)⟩, True⟩ := by kernel_rfl
theorem bs69_3 (N : Nat) (a b c : Int) : sBuildSlice Try.prog N 69 3 [(0, .v (.int .i64 a)), (1, .v (.int .i64 b)), (2, .v (.int .i64 c))] = some ⟨.slc N 0 3, ⟨none, some (.row ⟨1, 3, true, 2, fun e => ((icells [a, b, c]).drop (e * 1)).take 1⟩)⟩, True⟩ := by kernel_rfl
theorem bs69_4 (N : Nat) (a b c d : Int) : sBuildSlice Try.prog N 69 4 [(0, .v (.int .i64 a)), (1, .v (.int .i64 b)), (2, .v (.int .i64 c)), (3, .v (.int .i64 d))] = some ⟨.slc N 0 4, ⟨none, some (.row ⟨1, 4, true, 2, fun e => ((icells [a, b, c, d]).drop (e * 1)).take 1⟩)⟩, True⟩ := by kernel_rfl
theorem bs69_5 (N : Nat) (a b c d f : Int) : sBuildSlice Try.prog N 69 5 [(0, .v (.int .i64 a)), (1, .v (.int .i64 b)), (2, .v (.int .i64 c)), (3, .v (.int .i64 d)), (4, .v (.int .i64 f))] = some ⟨.slc N 0 5, ⟨none, some (.row ⟨1, 5, true, 2, fun e => ((icells [a, b, c, d, f]).drop (e * 1)).take 1⟩)⟩, True⟩ := by kernel_rfl
theorem ent_id1 {fz : Nat → Option SB} {ρ : Nat → Nat} {x : I16} {i : Nat} {r : List SV} (h : (idrs [x])[i]? = some r) : EntL fz ρ r ((x.c.drop ((0 + i) * 16)).take 16) := by
  cases i with
  | zero =>
    have : r = x.c := by simpa [idrs] using h.symm
    subst this
    rw [Nat.zero_add, Nat.zero_mul, List.drop_zero, List.take_of_length_le (by rw [I16.c_length]; exact Nat.le_refl _)]
    exact EntL.self (I16.flat _)
  | succ i => simp [idrs] at h
theorem bs79_2 (N : Nat) (x y : I16) : sBuildSlice Try.prog N 79 2 [(0, .agg x.c), (1, .agg y.c)] = some ⟨.slc N 0 2, ⟨none, some (.row ⟨16, 2, true, 23, fun e => ((x.c ++ y.c).drop (e * 16)).take 16⟩)⟩, True⟩ :=
  buildSlice_two tab.u79 tab.s23 tab.z23 (by decide) rfl (by decide) x.c y.c _ _ rfl rfl (by rw [I16.c_length]) (by rw [I16.c_length]) (I16.one x) (I16.one y)
theorem ent_id2 {fz : Nat → Option SB} {ρ : Nat → Nat} {x y : I16} {i : Nat} {r : List SV} (h : (idrs [x, y])[i]? = some r) : EntL fz ρ r (((x.c ++ y.c).drop ((0 + i) * 16)).take 16) := by
  match i, h with
  | 0, h =>
    have : r = x.c := by simpa [idrs] using h.symm
    subst this
    rw [Nat.zero_add, Nat.zero_mul, List.drop_zero, List.take_left' (I16.c_length _)]
    exact EntL.self (I16.flat _)
  | 1, h =>
    have : r = y.c := by simpa [idrs] using h.symm
    subst this
    rw [Nat.zero_add, Nat.one_mul, List.drop_left' (I16.c_length _), List.take_of_length_le (by rw [I16.c_length]; exact Nat.le_refl _)]
    exact EntL.self (I16.flat _)
  | i + 2, h => simp [idrs] at h
end Go.Proofs
namespace Go.Proofs
open Go Go.SL
set_option maxRecDepth 100000
theorem sp17a (a : I16) (v : SV) : spart true (a.c ++ [v]) 0 16 = .agg a.c := by simp [spart, I16.c_length]
theorem cl17 (a : I16) (v : SV) : cellAt (a.c ++ [v]) 16 = v := cellAt_get _ _ _ (by simp [I16.c_length])
theorem N_le (n : Int) (hn : 0 ≤ n ∧ n < 9223372036854775808) : (N n).length ≤ 9 := by
  unfold N
  rw [form_length]
  have := wide_le8 n.toNat (by omega)
  omega
theorem idsB_one (x : I16) : idsB [x] = iB x := by simp [idsB]
theorem idsB_two (x y : I16) : idsB [x, y] = iB x ++ iB y := by simp [idsB]
theorem nB_one (n : Int) : nB [n] = N n := by simp [nB]
theorem idLay1 (x : I16) : Lays 145 [.rsl 16 (idrs [x])] (iB x) := by
  have := ids_lays [x] (by show 1 < 4611686018427387904; decide)
  rw [idsB_one] at this
  exact this
theorem idLay2 (x y : I16) : Lays 145 [.rsl 16 (idrs [x, y])] (iB x ++ iB y) := by
  have := ids_lays [x, y] (by show 2 < 4611686018427387904; decide)
  rw [idsB_two] at this
  exact this
theorem numLay1 (n : Int) (hn : 0 ≤ n ∧ n < 9223372036854775808) : Lays 144 [.rsl 1 (lrows [n])] (N n) := by
  have := num_lays [n] (by simpa using hn) (by show 1 < 4611686018427387904; decide)
  rw [nB_one] at this
  exact this
def laypb10 :=
  (aI (aI (aI laypc0 @I16.c_length) (aI @I16.one (aI @IC.c_length @IC.one))) (aI (aI @bdset_a (aI @bsl_flat @idrs_len)) (aI @lrows_length (aI @p144_len @p144_one))))
def laypb11 :=
  (aI (aI (aI (aI laypc1 (aI laypc2 @I16.c_length)) (aI @I16.part (aI @al23n @bs69_1))) (aI (aI @bs79 (aI @cl17 @i16n_set)) (aI @idrs_len (aI @lrows_length @p144_len)))) (aI (aI (aI @sp17a (aI @tab.a2 @tab.a23)) (aI @tab.f144x0 (aI @tab.f144x1 @tab.s2))) (aI (aI @tab.s23 (aI @tab.s5 @tab.u2)) (aI @tab.u23 (aI @tab.u69 @tab.u79)))))
def laypb12 :=
  (aI (aI (aI (aI laypc1 (aI laypc2 @I16.c_length)) (aI (aI @I16.part @al23n) (aI @bs69_1 @bs79))) (aI (aI @bwk_a (aI @cl17 @eq_self.{1})) (aI (aI @forall_const.{1} @i16n_set) (aI @idrs_len @implies_true.{0})))) (aI (aI (aI @implies_true.{1} (aI @lrows_length @p144_len)) (aI (aI @sp17a @tab.a2) (aI @tab.a23 @tab.f144x0))) (aI (aI (aI @tab.f144x1 @tab.s2) (aI @tab.s23 @tab.s5)) (aI (aI @tab.u2 @tab.u23) (aI @tab.u69 @tab.u79)))))
def laypb13 :=
  (aI (aI (aI laypc2 (aI @tab.a2 @tab.a23)) (aI @tab.f144x0 (aI @tab.f144x1 @tab.s2))) (aI (aI @tab.s23 (aI @tab.s5 @tab.u2)) (aI @tab.u23 (aI @tab.u69 @tab.u79))))
set_option maxHeartbeats 4000000 in
theorem path_lays (who : I16) (n : Int) (hn : 0 ≤ n ∧ n < 9223372036854775808) : Lays 146 [.agg (who.c ++ [.v (.int .i64 n)])] (iB who ++ N n) := by
  intro acc hb
  rw [List.length_append, iB_length] at hb
  have c1 := idLay1 who acc (by rw [iB_length]; omega)
  have c2 := numLay1 n hn (acc ++ iB who) (by rw [List.length_append, iB_length]; omega)
  unfold ladR bytR at *
  refine SCall.mk (fn := Try.f146) (by kernel_rfl) rfl (Nat.le_of_ble_eq_true (by kernel_rfl)) ?_
  refine goC ?_
  simp -dsimp +decide (disch := first | omega | simp +decide only [laypb10]) only [laypb11, ↓brun_b, envOf, Nat.reduceAdd, Nat.reduceBEq]
  refine SemOps.frz (d := 7) (idrs [who]) rfl rfl rfl (by omega) (fun i r h => ent_id1 h) ?_
  refine SemOps.callw [0, 1] cal.f145 (c1) rfl rfl rfl (by simp -dsimp +decide (disch := first | omega | simp +decide only [laypb10]) only [laypb12, ↓brun_b, Nat.reduceAdd, Nat.reduceBEq]) rfl (by simp -dsimp +decide (disch := first | omega | simp +decide only [laypb10]) only [laypb12, Nat.reduceAdd]) (dK rfl) ?_
  refine goK ?_
  simp -dsimp +decide (disch := first | omega | simp +decide only [laypb10]) only [laypb11, ↓brun_b, Nat.reduceAdd, Nat.reduceBEq, rho]
  refine SemOps.frz (d := 12) (lrows [n]) rfl rfl rfl (by omega) (fun i r h => ent_icells h) ?_
  refine SemOps.callw [0, 4] cal.f144 (c2) rfl rfl rfl (by simp -dsimp +decide (disch := first | omega | simp +decide only [laypb10]) only [laypb12, ↓brun_b, Nat.reduceAdd, Nat.reduceBEq]) rfl (by simp -dsimp +decide (disch := first | omega | simp +decide only [laypb10]) only [laypb12, Nat.reduceAdd]) (dK rfl) ?_
  refine goK ?_
  simp -dsimp +decide (disch := first | omega | simp +decide only [laypb10]) only [laypb11, Nat.reduceAdd, rho]
  refine SQ.fin (SQ.runL (rs := []) [0, 1, 6] (.tup []) _ rfl (And.intro rfl rfl) (by decide) rfl rfl ?_ ?_)
  · simp -dsimp +decide (disch := first | omega | simp +decide only [laypb10]) only [laypb12, Nat.reduceAdd, List.append_assoc]
  · simp -dsimp +decide (disch := first | omega | simp +decide only [laypb10]) only [laypb12, ↓brun_b, Nat.reduceAdd]
    exact Ent.eq rfl
def laypb14 :=
  (aI (aI (aI (aI laypc1 laypc2) (aI @I16.c_length @I16.part)) (aI (aI @al23n @bs69_1) (aI @bs79 @cl17))) (aI (aI (aI @i16n_set @idrs_len) (aI @lrows_length @p144_len)) (aI (aI @sp17a @tab.a2) (aI @tab.s2 (aI @tab.u2 @tab.u69)))))
def laypb15 :=
  (aI (aI (aI (aI laypc1 laypc2) (aI @I16.c_length (aI @I16.part @al23n))) (aI (aI @bs69_1 (aI @bs79 @bwk_a)) (aI @cl17 (aI @eq_self.{1} @forall_const.{1})))) (aI (aI (aI @i16n_set @idrs_len) (aI @implies_true.{0} (aI @implies_true.{1} @lrows_length))) (aI (aI @p144_len (aI @sp17a @tab.a2)) (aI @tab.s2 (aI @tab.u2 @tab.u69)))))
def laypb16 :=
  (aI (aI laypc2 @tab.a2) (aI @tab.s2 (aI @tab.u2 @tab.u69)))
set_option maxHeartbeats 4000000 in
theorem flag_lays (t : Bool) : Lays 148 [.v (.bool t)] (flB t) := by
  intro acc hb
  cases t with
  | true =>
    have c1 := numLay1 1 (by decide) acc hb
    unfold ladR bytR at *
    refine SCall.mk (fn := Try.f148) (by kernel_rfl) rfl (Nat.le_of_ble_eq_true (by kernel_rfl)) ?_
    refine goC ?_
    simp -dsimp +decide (disch := first | omega | simp +decide only [laypb10]) only [laypb14, ↓brun_b, envOf, Nat.reduceAdd, Nat.reduceBEq]
    refine SemOps.frz (d := 6) (lrows [1]) rfl rfl rfl (by omega) (fun i r h => ent_icells h) ?_
    refine SemOps.callw [0, 1] cal.f144 (c1) rfl rfl rfl (by simp -dsimp +decide (disch := first | omega | simp +decide only [laypb10]) only [laypb15, ↓brun_b, Nat.reduceAdd, Nat.reduceBEq]) rfl (by simp -dsimp +decide (disch := first | omega | simp +decide only [laypb10]) only [laypb15, Nat.reduceAdd]) (dK rfl) ?_
    refine goK ?_
    simp -dsimp +decide (disch := first | omega | simp +decide only [laypb10]) only [laypb14, Nat.reduceAdd, rho]
    refine SQ.fin (SQ.runL (rs := []) [0, 1, 3] (.tup []) _ rfl (And.intro rfl rfl) (by decide) rfl rfl ?_ ?_)
    · simp -dsimp +decide (disch := first | omega | simp +decide only [laypb10]) only [laypb15, reduceIte, Nat.reduceAdd, flB, N, Int.toNat_one, ↓reduceIte]
    · simp -dsimp +decide (disch := first | omega | simp +decide only [laypb10]) only [laypb15, ↓brun_b, Nat.reduceAdd]
      exact Ent.eq rfl
  | false =>
    have c1 := numLay1 0 (by decide) acc hb
    unfold ladR bytR at *
    refine SCall.mk (fn := Try.f148) (by kernel_rfl) rfl (Nat.le_of_ble_eq_true (by kernel_rfl)) ?_
    refine goC ?_
    simp -dsimp +decide (disch := first | omega | simp +decide only [laypb10]) only [laypb14, ↓brun_b, envOf, Nat.reduceAdd, Nat.reduceBEq]
    refine SemOps.frz (d := 9) (lrows [0]) rfl rfl rfl (by omega) (fun i r h => ent_icells h) ?_
    refine SemOps.callw [0, 1] cal.f144 (c1) rfl rfl rfl (by simp -dsimp +decide (disch := first | omega | simp +decide only [laypb10]) only [laypb15, ↓brun_b, Nat.reduceAdd, Nat.reduceBEq]) rfl (by simp -dsimp +decide (disch := first | omega | simp +decide only [laypb10]) only [laypb15, Nat.reduceAdd]) (dK rfl) ?_
    refine goK ?_
    simp -dsimp +decide (disch := first | omega | simp +decide only [laypb10]) only [laypb14, Nat.reduceAdd, rho]
    refine SQ.fin (SQ.runL (rs := []) [0, 1, 3] (.tup []) _ rfl (And.intro rfl rfl) (by decide) rfl rfl ?_ ?_)
    · simp -dsimp +decide (disch := first | omega | simp +decide only [laypb10]) only [laypb15, reduceIte, Nat.reduceAdd, flB, N, ↓reduceIte]
    · simp -dsimp +decide (disch := first | omega | simp +decide only [laypb10]) only [laypb15, ↓brun_b, Nat.reduceAdd]
      exact Ent.eq rfl
end Go.Proofs
namespace Go.Proofs
open Go Go.SL
set_option maxRecDepth 100000
theorem legB_take (l : List Int) (k : Nat) (h : k < l.length) : legB (l.take (k + 1)) = legB (l.take k) ++ N (l.getD k 0) := by
  induction l generalizing k with
  | nil => simp at h
  | cons x l ih =>
    cases k with
    | zero => simp [legB, N]
    | succ k =>
      simp only [List.take_succ_cons, legB, List.getD_cons_succ]
      rw [ih k (by simpa using h), List.append_assoc]
theorem legB_len (l : List Int) (h : ∀ v ∈ l, 0 ≤ v ∧ v < 9223372036854775808) : (legB l).length ≤ 9 * l.length := by
  induction l with
  | nil => simp [legB]
  | cons x l ih =>
    have h1 := N_le x (h x (by simp))
    have h2 := ih fun v hv => h v (by simp [hv])
    rw [legB, List.length_append, List.length_cons]
    unfold N at h1
    omega
theorem legB_split (l : List Int) (k : Nat) : legB l = legB (l.take k) ++ legB (l.drop k) := by
  induction l generalizing k with
  | nil => simp [legB]
  | cons x l ih =>
    cases k with
    | zero => simp [legB]
    | succ k => simp only [List.take_succ_cons, List.drop_succ_cons, legB]; rw [ih k, List.append_assoc]
def laypb17 :=
  (aI (aI (aI laypc0 (aI @I16.c_length @I16.one)) (aI @IC.c_length (aI @IC.one @bdset_a))) (aI (aI @bsl_flat (aI @idrs_len @lrows_length)) (aI @p144_len (aI @p144_one @trows_flat))))
def laypb18 :=
  (aI (aI (aI (aI laypc1 laypc2) (aI @I16.c_length (aI @I16.part @al23n))) (aI (aI @bs69_1 @bs79) (aI @cl17 (aI @i16n_set @idrs_len)))) (aI (aI (aI @lrows_length @p144_len) (aI @sp17a (aI @tab.a2 @tab.a3))) (aI (aI @tab.s2 @tab.s3) (aI @tab.u145 (aI @tab.u2 @tab.u69)))))
def laypb19 :=
  (aI (aI (aI (aI laypc1 (aI laypc2 @I16.c_length)) (aI @I16.part (aI @al23n @bs69_1))) (aI (aI @bs79 (aI @bwk_a @cl17)) (aI @eq_self.{1} (aI @forall_const.{1} @i16n_set)))) (aI (aI (aI @idrs_len (aI @implies_true.{0} @implies_true.{1})) (aI @lrows_length (aI @p144_len @sp17a))) (aI (aI @tab.a2 (aI @tab.a3 @tab.s2)) (aI (aI @tab.s3 @tab.u145) (aI @tab.u2 @tab.u69)))))
def laypb20 :=
  (aI (aI (aI laypc2 @tab.a2) (aI @tab.a3 @tab.s2)) (aI (aI @tab.s3 @tab.u145) (aI @tab.u2 @tab.u69)))
set_option maxHeartbeats 4000000 in
theorem trail_lays (l : List Int) (hn : ∀ v ∈ l, 0 ≤ v ∧ v < 9223372036854775808) (hl : l.length < 4611686018427387904) : Lays 147 [.rsl 1 (lrows l)] (form l.length ++ legB l) := by
  intro acc hb
  have e0 : N (l.length : Int) = form l.length := by simp [N]
  have hb1 : acc.length + (form l.length).length + (legB l).length ≤ 140737488355328 := by rw [List.length_append] at hb; omega
  have c1 := numLay1 (l.length : Int) (by omega) acc (by rw [e0]; omega)
  rw [e0] at c1
  unfold ladR bytR at *
  refine SCall.mk (fn := Try.f147) (by kernel_rfl) rfl (Nat.le_of_ble_eq_true (by kernel_rfl)) ?_
  refine goC ?_
  simp -dsimp +decide (disch := first | omega | simp +decide only [laypb17]) only [laypb18, ↓brun_b, envOf, Nat.reduceAdd, Nat.reduceBEq]
  refine SemOps.frz (d := 9) (lrows [(l.length : Int)]) rfl rfl rfl (by omega) (fun i r h => ent_icells h) ?_
  refine SemOps.callw [0, 1] cal.f144 (c1) rfl rfl rfl (by simp -dsimp +decide (disch := first | omega | simp +decide only [laypb17]) only [laypb19, ↓brun_b, Nat.reduceAdd, Nat.reduceBEq]) rfl (by simp -dsimp +decide (disch := first | omega | simp +decide only [laypb17]) only [laypb19, Nat.reduceAdd]) (dK rfl) ?_
  refine goK ?_
  simp -dsimp +decide (disch := first | omega | simp +decide only [laypb17]) only [laypb18, ↓brun_b, Nat.reduceAdd, Nat.reduceBEq, rho]
  have ha0 : (acc ++ form l.length).length = acc.length + (form l.length).length := List.length_append
  generalize hA : acc ++ form l.length = A at *
  refine Sem.loop (ι := {k : Nat // k ≤ l.length}) (fun k => ⟨22, 2, [(0, .ptr 0 0 0), (11, .rsl 1 (lrows l)), (12, .v (.int .i64 (l.length : Int))), (13, .v (.int .i64 (k.1 : Int)))], [some (.row ⟨1, 1, true, 222, fun _ => [.slc 2 0 (A ++ legB (l.take k.1)).length]⟩), none, some (.row ⟨1, (A ++ legB (l.take k.1)).length, true, 5, brow (A ++ legB (l.take k.1))⟩)]⟩) (fun k => l.length - k.1) ⟨0, Nat.zero_le _⟩ [0, 1, 3] ?_ ?_
  · have h0 : A ++ legB (l.take 0) = A := by simp [legB]
    (refine Wk.ofC ?_; simp -dsimp +decide (disch := first | omega | simp +decide only [laypb17]) only [laypb19, ↓brun_b, Nat.reduceAdd, Nat.reduceBEq, h0])
  · rintro ⟨k, hk⟩
    refine goC ?_
    simp -dsimp +decide (disch := first | omega | simp +decide only [laypb17]) only [laypb18, ↓brun_b, Nat.reduceAdd, Nat.reduceBEq]
    refine SCond.split (fun h => ?_) (fun h => ?_)
    · simp only [decide_eq_true_eq] at h
      have hk' : k < l.length := by omega
      have hwk : IntKind.i64.wrap ((k : Int) + 1) = ((k + 1 : Nat) : Int) := by rw [wrap_i64 _ (by omega)]; rfl
      have hft := legB_take l k hk'
      have hsp := legB_split l (k + 1)
      have hat := lrows_at l k hk'
      have hmem : l.getD k 0 ∈ l := by rw [List.getD_eq_getElem?_getD, List.getElem?_eq_getElem hk', Option.getD_some]; exact List.getElem_mem hk'
      have hnn := hn _ hmem
      have hlen : (legB l).length = ((legB (l.take k)).length + (N (l.getD k 0)).length) + (legB (l.drop (k + 1))).length := by rw [hsp, hft, List.length_append, List.length_append]
      simp -dsimp +decide (disch := first | omega | simp +decide only [laypb17]) only [laypb18, ↓brun_b, Nat.reduceAdd, Nat.reduceBEq, Nat.reduceLeDiff, hat, lrow]
      generalize l.getD k 0 = x at *
      have hacc : (A ++ legB (l.take k)).length = A.length + (legB (l.take k)).length := List.length_append
      generalize ha : A ++ legB (l.take k) = a at *
      have c2 := numLay1 x hnn a (by omega)
      unfold ladR bytR at c2
      refine And.intro (by omega) ?_
      refine SemOps.frz (d := 19) (lrows [x]) rfl rfl rfl (by omega) (fun i r h => ent_icells h) ?_
      refine SemOps.callw [0, 2] cal.f144 (c2) rfl rfl rfl (by simp -dsimp +decide (disch := first | omega | simp +decide only [laypb17]) only [laypb19, ↓brun_b, Nat.reduceAdd, Nat.reduceBEq]) rfl (by simp -dsimp +decide (disch := first | omega | simp +decide only [laypb17]) only [laypb19, Nat.reduceAdd]) (dK rfl) ?_
      refine goK ?_
      simp -dsimp +decide (disch := first | omega | simp +decide only [laypb17]) only [laypb18, ↓brun_b, Nat.reduceAdd, Nat.reduceBEq, rho, hwk]
      have hl3 : (a ++ N x).length = a.length + (N x).length := List.length_append
      have hstep : A ++ legB (l.take (k + 1)) = a ++ N x := by rw [hft, ← List.append_assoc, ha]
      refine ⟨⟨k + 1, by omega⟩, [0, 1, 4], ?_, by show l.length - (k + 1) < l.length - k; omega⟩
      (refine Wk.ofC ?_; simp -dsimp +decide (disch := first | omega | simp +decide only [laypb17]) only [laypb19, ↓brun_b, Nat.reduceAdd, Nat.reduceBEq, hstep])
    · simp only [decide_eq_false_iff_not] at h
      obtain rfl : k = l.length := by omega
      have hft : l.take l.length = l := List.take_length
      simp -dsimp +decide (disch := first | omega | simp +decide only [laypb17]) only [laypb18, reduceIte, hft]
      have hE : acc ++ (form l.length ++ legB l) = A ++ legB l := by rw [← List.append_assoc, hA]
      refine SQ.fin (SQ.runL (rs := []) [0, 1, 2] (.tup []) _ rfl (And.intro rfl rfl) (by decide) rfl rfl ?_ ?_)
      · simp -dsimp +decide (disch := first | omega | simp +decide only [laypb17]) only [laypb19, Nat.reduceAdd, hE]
      · simp -dsimp +decide (disch := first | omega | simp +decide only [laypb17]) only [laypb19, ↓brun_b, Nat.reduceAdd]
        exact Ent.eq rfl
theorem trow_one {fz : Nat → Option SB} {ρ : Nat → Nat} {t : List UInt8} {i : Nat} {r : List SV} (h : (trows [t])[i]? = some r) : EntL fz ρ r ((([bsl t] : List SV).drop (0 + i)).take 1) := by
  cases i with
  | zero =>
    have : r = [bsl t] := by simpa [trows] using h.symm
    subst this
    exact EntL.self (by simp only [flatL_cons, flatL_nil, bsl_flat, Bool.and_self])
  | succ i => simp [trows] at h
theorem ptexts_one (t : List UInt8) : ptexts [t] = txB t := by simp [ptexts, txB]
theorem putText1 (t : List UInt8) (h : (txB t).length ≤ 140737488355328) : Pure Try.prog 47 [.rsl 1 (trows [t])] (bsl (txB t)) := by
  have := putText_calls [t] (by rw [ptexts_one]; exact h) (by show 1 < 4611686018427387904; decide)
  rw [ptexts_one] at this
  exact this
def laypc3 :=
  (aI (aI @tab.f147x0 @tab.f147x1) (aI @tab.f149x0 (aI @tab.f149x1 @tab.f149x2)))
def laypb21 :=
  (aI (aI (aI (aI laypc1 (aI laypc2 laypc3)) (aI (aI @I16.c_length @I16.part) (aI @IC.at_val @IC.at_vn))) (aI (aI (aI @IC.part_key @IC.part_vwho) (aI @al23n @bs69_1)) (aI (aI @bs79 @cl17) (aI @i16n_set @idrs_len)))) (aI (aI (aI (aI @lrows_length @p144_len) (aI @sp17a @tab.a2)) (aI (aI @tab.a23 @tab.a35) (aI @tab.f222x0 @tab.s2))) (aI (aI (aI @tab.s23 @tab.s35) (aI @tab.s5 @tab.u2)) (aI (aI @tab.u23 @tab.u35) (aI @tab.u69 @tab.u79)))))
def laypb22 :=
  (aI (aI (aI (aI (aI laypc1 laypc2) (aI laypc3 @I16.c_length)) (aI (aI @I16.part @al23n) (aI @bs69_1 @bs79))) (aI (aI (aI @bwk_a @cl17) (aI @eq_self.{1} @forall_const.{1})) (aI (aI @i16n_set @idrs_len) (aI @implies_true.{0} @implies_true.{1})))) (aI (aI (aI (aI @lrows_length @p144_len) (aI @sp17a @tab.a2)) (aI (aI @tab.a23 @tab.a35) (aI @tab.f222x0 @tab.s2))) (aI (aI (aI @tab.s23 @tab.s35) (aI @tab.s5 @tab.u2)) (aI (aI @tab.u23 @tab.u35) (aI @tab.u69 @tab.u79)))))
def laypb23 :=
  (aI (aI (aI laypc2 (aI laypc3 @tab.a2)) (aI (aI @tab.a23 @tab.a35) (aI @tab.f222x0 @tab.s2))) (aI (aI (aI @tab.s23 @tab.s35) (aI @tab.s5 @tab.u2)) (aI (aI @tab.u23 @tab.u35) (aI @tab.u69 @tab.u79))))
def laypb24 :=
  (aI (aI (aI (aI (aI laypc1 laypc2) (aI laypc3 @I16.c_length)) (aI (aI @I16.part @IC.at_val) (aI @IC.at_vn @IC.part_key))) (aI (aI (aI @IC.part_vwho @al23n) (aI @bs44_1 @bs69_1)) (aI (aI @bs79 @cl17) (aI @i16n_set @idrs_len)))) (aI (aI (aI (aI @lrows_length @p144_len) (aI @sp17a @tab.a2)) (aI (aI @tab.a23 @tab.a35) (aI @tab.f222x0 @tab.s2))) (aI (aI (aI @tab.s23 @tab.s35) (aI @tab.s5 @tab.u2)) (aI (aI @tab.u23 @tab.u35) (aI @tab.u69 @tab.u79)))))
def laypb25 :=
  (aI laypc0 (aI @bsl_flat @trows_flat))
def laypb26 :=
  (aI (aI (aI (aI laypc1 (aI laypc2 laypc3)) (aI @I16.c_length (aI @I16.part @al23n))) (aI (aI @bs69_1 (aI @bs79 @cl17)) (aI (aI @i16n_set @idrs_len) (aI @lrows_length @p144_len)))) (aI (aI (aI @sp17a (aI @tab.a2 @tab.a23)) (aI (aI @tab.a35 @tab.f222x0) (aI @tab.s2 @tab.s23))) (aI (aI @tab.s35 (aI @tab.s5 @tab.u2)) (aI (aI @tab.u23 @tab.u35) (aI @tab.u69 @tab.u79)))))
set_option maxHeartbeats 4000000 in
theorem item_lays (key vwho : I16) (vn : Int) (val : List UInt8) (hn : 0 ≤ vn ∧ vn < 9223372036854775808) : Lays 149 [.agg (IC.c ⟨key, .v (.int .i64 vn), vwho, bsl val⟩)] (iB key ++ ((N vn ++ iB vwho) ++ txB val)) := by
  intro acc hb
  have e1 : ((iB key ++ ((N vn ++ iB vwho) ++ txB val)) : List UInt8).length = 32 + (N vn).length + (txB val).length := by simp only [List.length_append, iB_length]; omega
  rw [e1] at hb
  have c1 := idLay1 key acc (by rw [iB_length]; omega)
  have c2 := numLay1 vn hn (acc ++ iB key) (by simp only [List.length_append, iB_length]; omega)
  have c3 := idLay1 vwho (acc ++ iB key ++ N vn) (by simp only [List.length_append, iB_length]; omega)
  have c4 := putText1 val (by omega)
  unfold ladR bytR at *
  refine SCall.mk (fn := Try.f149) (by kernel_rfl) rfl (Nat.le_of_ble_eq_true (by kernel_rfl)) ?_
  refine goC ?_
  simp -dsimp +decide (disch := first | omega | simp +decide only [laypb17]) only [laypb21, ↓brun_b, envOf, Nat.reduceAdd, Nat.reduceBEq]
  refine SemOps.frz (d := 7) (idrs [key]) rfl rfl rfl (by omega) (fun i r h => ent_id1 h) ?_
  refine SemOps.callw [0, 1] cal.f145 (c1) rfl rfl rfl (by simp -dsimp +decide (disch := first | omega | simp +decide only [laypb17]) only [laypb22, ↓brun_b, Nat.reduceAdd, Nat.reduceBEq]) rfl (by simp -dsimp +decide (disch := first | omega | simp +decide only [laypb17]) only [laypb22, Nat.reduceAdd]) (dK rfl) ?_
  refine goK ?_
  simp -dsimp +decide (disch := first | omega | simp +decide only [laypb17]) only [laypb21, ↓brun_b, Nat.reduceAdd, Nat.reduceBEq, rho]
  refine SemOps.frz (d := 13) (lrows [vn]) rfl rfl rfl (by omega) (fun i r h => ent_icells h) ?_
  refine SemOps.callw [0, 4] cal.f144 (c2) rfl rfl rfl (by simp -dsimp +decide (disch := first | omega | simp +decide only [laypb17]) only [laypb22, ↓brun_b, Nat.reduceAdd, Nat.reduceBEq]) rfl (by simp -dsimp +decide (disch := first | omega | simp +decide only [laypb17]) only [laypb22, Nat.reduceAdd]) (dK rfl) ?_
  refine goK ?_
  simp -dsimp +decide (disch := first | omega | simp +decide only [laypb17]) only [laypb21, ↓brun_b, Nat.reduceAdd, Nat.reduceBEq, rho]
  refine SemOps.frz (d := 19) (idrs [vwho]) rfl rfl rfl (by omega) (fun i r h => ent_id1 h) ?_
  refine SemOps.callw [0, 6] cal.f145 (c3) rfl rfl rfl (by simp -dsimp +decide (disch := first | omega | simp +decide only [laypb17]) only [laypb22, ↓brun_b, Nat.reduceAdd, Nat.reduceBEq]) rfl (by simp -dsimp +decide (disch := first | omega | simp +decide only [laypb17]) only [laypb22, Nat.reduceAdd]) (dK rfl) ?_
  refine goK ?_
  simp -dsimp +decide (disch := first | omega | simp +decide only [laypb17]) only [laypb21, Nat.reduceAdd, rho]
  have hacc : (acc ++ iB key ++ N vn ++ iB vwho).length = acc.length + 32 + (N vn).length := by simp only [List.length_append, iB_length]; omega
  have hE : acc ++ (iB key ++ ((N vn ++ iB vwho) ++ txB val)) = acc ++ iB key ++ N vn ++ iB vwho ++ txB val := by simp only [List.append_assoc]
  generalize acc ++ iB key ++ N vn ++ iB vwho = a at *
  refine Sem.draw' (by kernel_rfl) (.one 0 (.one 1 (.one 2 (.one 3 (.one 5 (.one 6 (.alt 4 (.alt 7 (.alt 8 (.alt 9 (.one 10 (.one 11 (.alt 12 .done .non))) .non) .non) .non) (.alt 7 (.alt 4 (.alt 8 (.alt 9 (.one 10 (.one 11 (.alt 12 .done .non))) .non) .non) (.alt 8 (.alt 4 (.alt 9 (.one 10 (.one 11 (.alt 12 .done .non))) .non) .non) .non)) .non)))))))) [0, 8] (by kernel_rfl) (fun G ff hG hf => ?_)
  simp +decide only [laypb3, Nat.reduceAdd] at hG ⊢
  simp -dsimp +decide (disch := first | omega | simp +decide only [laypb17]) only [laypb24, ↓brun_b, Nat.reduceAdd, Nat.reduceBEq, hG]
  have hl3 : (a ++ txB val).length = a.length + (txB val).length := List.length_append
  (repeat' refine And.intro ?_ ?_)
  all_goals
    refine OpSem.frz (d := 28) (trows [val]) rfl rfl rfl (by omega) (fun i r h => trow_one h) ?_
    refine OpSem.callq cal.f47 (c4) rfl rfl rfl (by simp only [bflat_a, laypb25]) (by simp only [bflat_a]) (dK rfl) ?_
    simp -dsimp +decide (disch := first | omega | simp +decide only [laypb17]) only [laypb26, ↓brun_b, Nat.reduceAdd, Nat.reduceBEq, sapp1_sl el5]
    (repeat' refine And.intro ?_ ?_)
    all_goals first | omega | skip
    all_goals
      refine hf _ (Sem.go (k := 1000) ?_)
      simp +decide only [back_mk, backL_in, backL_row, backL_none, backL_nil, Nat.zero_add, Nat.reduceAdd]
      simp -dsimp +decide (disch := first | omega | simp +decide only [laypb17]) only [laypb26]
      refine SQ.fin (SQ.runL (rs := []) [0, 1, 10] (.tup []) _ rfl (And.intro rfl rfl) (by decide) rfl rfl ?_ ?_)
      · simp -dsimp +decide (disch := first | omega | simp +decide only [laypb17]) only [laypb22, Nat.reduceAdd, hE, hl3]
        intro e he
        rw [brow_app2r _ _ _ he]
        exact EntL.self rfl
      · simp -dsimp +decide (disch := first | omega | simp +decide only [laypb17]) only [laypb22, ↓brun_b, Nat.reduceAdd]
        exact Ent.eq rfl
end Go.Proofs
