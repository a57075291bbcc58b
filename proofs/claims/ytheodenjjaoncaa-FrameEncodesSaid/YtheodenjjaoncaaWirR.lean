/- Contracts of functions that the laws reach, on abstract values, and what they need: no conditions but those that each theorem states. -/
import Derived.Test.YtheodenjjaoncaaWirP
import Derived.Test.YtheodenjjaoncaaSlY
set_option linter.unusedVariables false
set_option linter.unusedSimpArgs false
set_option linter.defProp false
namespace Go.SL
open Go
def trows (ts : List (List UInt8)) : List (List SV) := ts.map fun t => [bsl t]
theorem trows_length (ts : List (List UInt8)) : (trows ts).length = ts.length := by simp [trows]
theorem trows_flat (ts : List (List UInt8)) : SV.flatR (trows ts) = true := flatR_map _ _ fun t => by simp only [flatL_cons, flatL_nil, flat_rsl, flatR_brows, Bool.and_self]
def trow (ts : List (List UInt8)) (k : Nat) : List SV := [bsl (ts.getD k [])]
theorem trows_at (ts : List (List UInt8)) (k : Nat) (h : k < ts.length) : (trows ts).getD k [] = trow ts k := by
  simp [trows, trow, List.getD_eq_getElem?_getD, h]
theorem trow_len (ts : List (List UInt8)) (k : Nat) : (trow ts k).length = 1 := Eq.trans rfl rfl
theorem trow_cell (ts : List (List UInt8)) (k : Nat) : cellAt (trow ts k) 0 = bsl (ts.getD k []) := Eq.trans rfl rfl
def ptexts (ts : List (List UInt8)) : List UInt8 := ts.flatMap fun t => form t.length ++ t
theorem ptexts_nil : ptexts [] = [] := Eq.trans rfl rfl
theorem ptexts_take (ts : List (List UInt8)) (k : Nat) (h : k < ts.length) : ptexts (ts.take (k + 1)) = ptexts (ts.take k) ++ form (ts.getD k []).length ++ ts.getD k [] := by
  rw [List.take_add_one, List.getElem?_eq_getElem h, Option.toList_some, List.getD_eq_getElem?_getD, List.getElem?_eq_getElem h, ptexts, List.flatMap_append, List.flatMap_singleton, List.append_assoc]
  rfl
theorem ptexts_le (ts : List (List UInt8)) (k : Nat) : (ptexts (ts.take k)).length ≤ (ptexts ts).length := by
  conv => rhs; rw [← List.take_append_drop k ts]
  simp only [ptexts, List.flatMap_append, List.length_append]
  omega
theorem brow_app3 (a f t : List UInt8) (i : Nat) (hi : i < a.length + f.length + t.length) : (if i < a.length + f.length then if i < a.length then brow a i else brow f (i - a.length) else (brows t).getD (i - (a.length + f.length)) []) = brow (a ++ f ++ t) i := by
  by_cases h1 : i < a.length + f.length
  · rw [if_pos h1]
    by_cases h2 : i < a.length
    · rw [if_pos h2]
      simp only [brow, List.getD_eq_getElem?_getD]
      rw [List.append_assoc, List.getElem?_append_left h2]
    · rw [if_neg h2]
      simp only [brow, List.getD_eq_getElem?_getD]
      rw [List.append_assoc, List.getElem?_append_right (by omega), List.getElem?_append_left (by omega)]
  · rw [if_neg h1, brows_at _ _ (by omega)]
    simp only [brow, List.getD_eq_getElem?_getD]
    rw [List.getElem?_append_right (by rw [List.length_append]; omega), List.length_append]
end Go.SL
namespace Go.Proofs
open Go Go.SL
set_option maxRecDepth 100000
end Go.Proofs
namespace Go.Proofs
open Go Go.SL
set_option maxRecDepth 100000
end Go.Proofs
namespace Go.Proofs
open Go Go.SL
set_option maxRecDepth 100000
end Go.Proofs
namespace Go.SL
open Go
end Go.SL
namespace Go.Proofs
open Go Go.SL
set_option maxRecDepth 100000
theorem bs44_1 (N : Nat) (t : List UInt8) : sBuildSlice Try.prog N 44 1 [(0, bsl t)] = some ⟨.slc N 0 1, ⟨none, some (.row ⟨1, 1, true, 35, fun e => (([bsl t] : List SV).drop (e * 1)).take 1⟩)⟩, True⟩ :=
  buildSlice_one tab.u44 tab.s35 tab.z35 (by decide) rfl (by decide) [bsl t] _ rfl rfl rfl
end Go.Proofs
namespace Go.Proofs
open Go Go.SL
set_option maxRecDepth 100000
theorem brow_app2 (a f : List UInt8) (i : Nat) (hi : i < a.length + f.length) : (if i < a.length then brow a i else brow f (i - a.length)) = brow (a ++ f) i := by
  by_cases h2 : i < a.length
  · rw [if_pos h2]
    simp only [brow, List.getD_eq_getElem?_getD]
    rw [List.getElem?_append_left h2]
  · rw [if_neg h2]
    simp only [brow, List.getD_eq_getElem?_getD]
    rw [List.getElem?_append_right (by omega)]
theorem brow_app2r (a f : List UInt8) (i : Nat) (hi : i < a.length + f.length) : (if i < a.length then brow a i else (brows f).getD (i - a.length) []) = brow (a ++ f) i := by
  rw [← brow_app2 a f i hi]
  by_cases h : i < a.length
  · rw [if_pos h, if_pos h]
  · rw [if_neg h, if_neg h, brows_at _ _ (by omega)]
end Go.Proofs
namespace Go.SL
open Go
def lowd (n k : Nat) : List UInt8 := (List.range k).map fun j => UInt8.ofNat (n / 256 ^ j)
theorem lowd_length (n k : Nat) : (lowd n k).length = k := by simp [lowd]
theorem lowd_zero (n : Nat) : lowd n 0 = [] := Eq.trans rfl rfl
theorem lowd_succ (n k : Nat) : lowd n (k + 1) = lowd n k ++ [UInt8.ofNat (n / 256 ^ k)] := by simp [lowd, List.range_succ]
theorem lowd_getD (n w i : Nat) (h : i < w) : (lowd n w).getD (w - 1 - i) 0 = byteAt w n i := by
  rw [List.getD_eq_getElem?_getD, lowd, List.getElem?_map, List.getElem?_range (by omega)]
  rfl
end Go.SL
namespace Go.Proofs
open Go Go.SL
set_option maxRecDepth 100000
def wirrb0 :=
  (aI (aI (aI @bdset_a @brow_flat) (aI @nres.flat @tres.flat)) (aI (aI @trow_len @trows_flat) (aI @trows_length @urows.flat)))
def wirrc0 :=
  (aI (aI (aI @beq_self_eq_true.{0} (aI @brun_a @cond_false.{1})) (aI @cond_true.{1} (aI @tab.a35 @tab.a5))) (aI (aI @tab.s35 (aI @tab.s5 @tab.u3)) (aI @tab.u35 (aI @tab.u36 @tab.u5))))
def wirrb1 :=
  (aI (aI wirrc0 (aI @brow_cell @brows_at)) (aI (aI @trow_cell @trow_len) (aI @trows_at @trows_length)))
def wirrb2 :=
  (aI (aI (aI wirrc0 (aI @brow_cell @brows_at)) (aI @bwk_a (aI @eq_self.{1} @forall_const.{1}))) (aI (aI @implies_true.{0} (aI @implies_true.{1} @lowd_zero)) (aI (aI @trow_cell @trow_len) (aI @trows_at @trows_length))))
def wirrb3 :=
  (aI (aI (aI wirrc0 @brow_cell) (aI @brows_at @bs35)) (aI (aI @trow_cell @trow_len) (aI @trows_at @trows_length)))
def wirrb4 :=
  (aI (aI (aI wirrc0 (aI @brow_cell @brows_at)) (aI @bwk_a (aI @eq_self.{1} @forall_const.{1}))) (aI (aI @implies_true.{0} (aI @implies_true.{1} @trow_cell)) (aI @trow_len (aI @trows_at @trows_length))))
theorem num_owns (n : Nat) (hn : n < 18446744073709551616) : Owns Try.prog 45 [.v (.int .u64 (n : Int))] 1 (form n).length 5 (brow (form n)) := by
  have hw8 := wide_le8 n hn
  have hfl := form_length n
  refine SCall.mk (fn := Try.f45) (by kernel_rfl) rfl (Nat.le_of_ble_eq_true (by kernel_rfl)) ?_
  refine Sem.go (k := 1000) ?_
  simp -dsimp (decide := true) (disch := first | omega | simp (decide := true) only [wirrb0]) only [wirrb1, ↓brun_b, envOf]
  refine Sem.ghost 3 1 5 rfl ?_
  refine Sem.cutW [_, _] ⟨35, 0, [(3, .slc 0 0 (wide n))], [some (.row ⟨1, wide n, true, 5, brow (lowd n (wide n))⟩)]⟩ ?_ ?_
  · refine Sem.loop (ι := {k : Nat // k ≤ wide n}) (fun k => ⟨35, 0, [(0, .v (.int .u64 ((n / 256 ^ k.1 : Nat) : Int))), (3, .slc 0 0 k.1)], [some (.row ⟨1, k.1, true, 5, brow (lowd n k.1)⟩)]⟩) (fun k => wide n - k.1) ⟨0, by omega⟩ [0] ?_ ?_
    · (refine Wk.ofC ?_; simp -dsimp (decide := true) (disch := first | omega | simp (decide := true) only [wirrb0]) only [wirrb2, ↓brun_b, Nat.reduceBEq, Nat.pow_zero, Nat.div_one])
    · rintro ⟨k, hk⟩
      refine Sem.go (k := 1000) ?_
      simp -dsimp (decide := true) (disch := first | omega | simp (decide := true) only [wirrb0]) only [wirrb1, ↓brun_b]
      refine SCond.split (fun h => ?_) (fun h => ?_)
      · have hpos : 0 < n / 256 ^ k := by simp only [decide_eq_true_eq] at h; omega
        have hk' : k < wide n := (wide_gt n k).2 (Nat.div_pos_iff.1 hpos).2
        have hle : n / 256 ^ k ≤ n := Nat.div_le_self _ _
        have hstep : n / 256 ^ (k + 1) = n / 256 ^ k / 256 := by rw [Nat.pow_succ, Nat.div_div_eq_div_mul]
        have hsu := lowd_succ n k
        have hlk := lowd_length n k
        generalize n / 256 ^ k = m at *
        have hb : IntKind.u8.wrap ((m : Int).tmod 256) = ((UInt8.ofNat m).toNat : Int) := by
          rw [Int.tmod_eq_emod_of_nonneg (by omega), wrap_u8 _ (by omega), UInt8.toNat_ofNat']
          omega
        have hq : IntKind.u64.wrap ((m : Int).tdiv 256) = ((m / 256 : Nat) : Int) := by
          rw [Int.tdiv_eq_ediv_of_nonneg (by omega), wrap_u64 _ (by omega)]
          omega
        simp -dsimp (decide := true) (disch := first | omega | simp (decide := true) only [wirrb0]) only [wirrb3, ↓brun_b, Nat.reduceAdd, Nat.reduceBEq, Nat.reduceLeDiff, hb, hq, sapp1_sl el5]
        refine And.intro (by omega) ⟨⟨k + 1, by omega⟩, [2], ?_, by show wide n - (k + 1) < wide n - k; omega⟩
        (refine Wk.ofC ?_; simp -dsimp (decide := true) (disch := first | omega | simp (decide := true) only [wirrb0]) only [wirrb4, ↓brun_b, Nat.reduceAdd, Nat.reduceBEq, hstep, hsu])
        intro e he
        exact ent_brow_app hlk (fun i h => one_brow _ i h) he
      · simp -dsimp (decide := true) (disch := first | omega | simp (decide := true) only [wirrb0]) only [wirrb1]
        simp only [decide_eq_false_iff_not] at h
        have hk' : ¬ k < wide n := fun h2 => by
          have := Nat.div_pos ((wide_gt n k).1 h2) (Nat.pow_pos (by omega : 0 < 256))
          omega
        obtain rfl : k = wide n := by omega
        refine ⟨[0], ?_⟩
        (refine Wk.ofC ?_; simp -dsimp (decide := true) (disch := first | omega | simp (decide := true) only [wirrb0]) only [wirrb4, ↓brun_b, Nat.reduceBEq])
  · refine Sem.go (k := 1000) ?_
    have hw1 := wrap_u8_nat (wide n)
    have hw2 : IntKind.i64.wrap ((wide n : Int) - 1) = (wide n : Int) - 1 := wrap_i64 _ (by omega)
    simp -dsimp (decide := true) (disch := first | omega | simp (decide := true) only [wirrb0]) only [wirrb3, ↓brun_b, Nat.reduceAdd, Nat.reduceBEq, hw1, hw2]
    refine Sem.loop (ι := {m : Nat // m ≤ wide n}) (fun m => ⟨35, 0, [(3, .slc 0 0 (wide n)), (4, .slc 1 0 (1 + m.1)), (5, .v (.int .i64 ((wide n : Int) - 1 - (m.1 : Int))))], [some (.row ⟨1, wide n, true, 5, brow (lowd n (wide n))⟩), some (.row ⟨1, 1 + m.1, true, 5, brow (UInt8.ofNat (wide n) :: (bigEnd (wide n) n).take m.1)⟩)]⟩) (fun m => wide n - m.1) ⟨0, by omega⟩ [0, 1] ?_ ?_
    · (refine Wk.ofC ?_; simp -dsimp (decide := true) (disch := first | omega | simp (decide := true) only [wirrb0]) only [wirrb4, ↓brun_b, Nat.reduceAdd, Nat.reduceBEq, List.take_zero])
      refine And.intro (by rw [Int.sub_zero]) fun e he => ?_
      rw [one_brow _ e (by simpa using he)]
      exact EntL.self rfl
    · rintro ⟨m, hm⟩
      refine Sem.go (k := 1000) ?_
      simp -dsimp (decide := true) (disch := first | omega | simp (decide := true) only [wirrb0]) only [wirrb1, ↓brun_b, Nat.reduceAdd, Nat.reduceBEq]
      refine SCond.split (fun h => ?_) (fun h => ?_)
      · have hm' : m < wide n := by simp only [decide_eq_true_eq] at h; omega
        have hi : (wide n : Int) - 1 - (m : Int) = ((wide n - 1 - m : Nat) : Int) := by omega
        have hw3 : IntKind.i64.wrap (((wide n - 1 - m : Nat) : Int) - 1) = (wide n : Int) - 1 - ((m + 1 : Nat) : Int) := by rw [wrap_i64 _ (by omega)]; omega
        have hgd := lowd_getD n (wide n) m hm'
        have hbt := bigEnd_take (wide n) n m hm'
        simp -dsimp (decide := true) (disch := first | omega | simp (decide := true) only [wirrb0]) only [wirrb3, ↓brun_b, Nat.reduceAdd, Nat.reduceBEq, Nat.reduceLeDiff, hi, hw3, hgd, sapp1_sl el5]
        have hrow : UInt8.ofNat (wide n) :: (bigEnd (wide n) n).take (m + 1) = (UInt8.ofNat (wide n) :: (bigEnd (wide n) n).take m) ++ [byteAt (wide n) n m] := by rw [hbt]; rfl
        have hrl : (UInt8.ofNat (wide n) :: (bigEnd (wide n) n).take m).length = 1 + m := by rw [List.length_cons, List.length_take, bigEnd_length]; omega
        refine And.intro (by omega) (And.intro (by omega) (And.intro (by omega) ⟨⟨m + 1, hm'⟩, [0, 3], ?_, by show wide n - (m + 1) < wide n - m; omega⟩))
        (refine Wk.ofC ?_; simp -dsimp (decide := true) (disch := first | omega | simp (decide := true) only [wirrb0]) only [wirrb4, ↓brun_b, Nat.reduceAdd, Nat.reduceBEq, hrow])
        refine And.intro (by omega) (And.intro (by omega) fun e he => ?_)
        exact ent_brow_app hrl (fun i h => one_brow _ i h) he
      · simp -dsimp (decide := true) (disch := first | omega | simp (decide := true) only [wirrb0]) only [wirrb1, ↓brun_b, reduceIte, Nat.reduceAdd, Nat.reduceBEq]
        have hm' : m = wide n := by simp only [decide_eq_false_iff_not] at h; omega
        subst hm'
        have hft : (bigEnd (wide n) n).take (wide n) = bigEnd (wide n) n := List.take_of_length_le (by rw [bigEnd_length]; omega)
        have hfm : form n = UInt8.ofNat (wide n) :: (bigEnd (wide n) n).take (wide n) := by rw [hft]; rfl
        rw [hfl, hfm, Nat.add_comm]
        refine SQ.runL (rs := [.tmp 2]) [1] _ _ rfl (And.intro rfl rfl) (by decide) rfl rfl ?_ ?_
        · simp -dsimp (decide := true) (disch := first | omega | simp (decide := true) only [wirrb0]) only [wirrb4, Nat.reduceAdd]
        · simp -dsimp (decide := true) (disch := first | omega | simp (decide := true) only [wirrb0]) only [wirrb4, ↓brun_b, Nat.reduceAdd]
end Go.Proofs
namespace Go.Proofs
open Go Go.SL
set_option maxRecDepth 100000
theorem text_owns (t : List UInt8) (ht : t.length + 9 ≤ 140737488355328) : Owns Try.prog 46 [bsl t] 1 (form t.length ++ t).length 5 (brow (form t.length ++ t)) := by
  have hw8 := wide_le8 t.length (by omega)
  have hfl := form_length t.length
  have hwu : IntKind.u64.wrap ((t.length : Nat) : Int) = (t.length : Int) := wrap_u64 _ (by omega)
  have hl : (form t.length ++ t).length = (form t.length).length + t.length := List.length_append
  refine SCall.mk (fn := Try.f46) (by kernel_rfl) rfl (Nat.le_of_ble_eq_true (by kernel_rfl)) ?_
  refine Sem.go (k := 1000) ?_
  simp -dsimp (decide := true) (disch := first | omega | simp (decide := true) only [wirrb0]) only [wirrb1, ↓brun_b, envOf, Nat.reduceBEq, hwu]
  refine SemOps.callo (k := 1000) cal.f45 (num_owns t.length (by omega)) rfl rfl rfl rfl (by simp only [bflat_a]) (brow_flat _) (by simp -dsimp (decide := true) (disch := first | omega | simp (decide := true) only [wirrb0]) only [wirrc0]) ?_
  simp -dsimp (decide := true) (disch := first | omega | simp (decide := true) only [wirrb0]) only [wirrb1, ↓brun_b, Nat.reduceAdd, Nat.reduceBEq, sapp1_sl el5]
  refine And.intro (by omega) ?_
  refine SQ.runL (rs := [.tmp 2]) [1] _ _ rfl (And.intro rfl rfl) (by decide) rfl rfl ?_ ?_
  · simp -dsimp (decide := true) (disch := first | omega | simp (decide := true) only [wirrb0]) only [wirrb4, Nat.reduceAdd, hl]
    intro e he
    rw [brow_app2r _ _ e he]
    exact EntL.self rfl
  · simp -dsimp (decide := true) (disch := first | omega | simp (decide := true) only [wirrb0]) only [wirrb4, ↓brun_b, Nat.reduceAdd, hl]
def wirrb6 :=
  (aI (aI (aI wirrc0 @brow_cell) (aI @brows_at @tab.u44)) (aI (aI @trow_cell @trow_len) (aI @trows_at @trows_length)))
def wirrb7 :=
  (aI (aI (aI wirrc0 (aI @brow_cell @brows_at)) (aI (aI @bwk_a @eq_self.{1}) (aI @forall_const.{1} @implies_true.{0}))) (aI (aI @implies_true.{1} (aI @ptexts_nil @tab.u44)) (aI (aI @trow_cell @trow_len) (aI @trows_at @trows_length))))
def wirrb8 :=
  (aI (aI (aI wirrc0 @brow_cell) (aI @brows_at @bs43_1)) (aI (aI @tab.u44 @trow_cell) (aI @trow_len (aI @trows_at @trows_length))))
def wirrb9 :=
  (aI wirrc0 @tab.u44)
def wirrb10 :=
  (aI (aI (aI wirrc0 (aI @brow_cell @brows_at)) (aI @bwk_a (aI @eq_self.{1} @forall_const.{1}))) (aI (aI @implies_true.{0} (aI @implies_true.{1} @tab.u44)) (aI (aI @trow_cell @trow_len) (aI @trows_at @trows_length))))
def wirrb11 :=
  (aI (aI wirrc0 (aI @bwk_a @eq_self.{1})) (aI (aI @forall_const.{1} @implies_true.{0}) (aI @implies_true.{1} @tab.u44)))
theorem putText_calls (ts : List (List UInt8)) (hb : (ptexts ts).length ≤ 140737488355328) (hts : ts.length < 4611686018427387904) : Pure Try.prog 47 [.rsl 1 (trows ts)] (bsl (ptexts ts)) := by
  refine SCall.mk (fn := Try.f47) (by kernel_rfl) rfl (Nat.le_of_ble_eq_true (by kernel_rfl)) ?_
  refine Sem.go (k := 1000) ?_
  simp -dsimp (decide := true) (disch := first | omega | simp (decide := true) only [wirrb0]) only [wirrb6, ↓brun_b, envOf, Nat.reduceBEq]
  refine Sem.ghost 3 1 5 rfl ?_
  refine Sem.loop (ι := {k : Nat // k ≤ ts.length}) (fun k => ⟨23, 0, [(6, .rsl 1 (trows ts)), (7, .v (.int .i64 (ts.length : Int))), (8, .v (.int .i64 (k.1 : Int))), (3, .slc 0 0 (ptexts (ts.take k.1)).length)], [some (.row ⟨1, (ptexts (ts.take k.1)).length, true, 5, brow (ptexts (ts.take k.1))⟩)]⟩) (fun k => ts.length - k.1) ⟨0, by omega⟩ [0] ?_ ?_
  · (refine Wk.ofC ?_; simp -dsimp (decide := true) (disch := first | omega | simp (decide := true) only [wirrb0]) only [wirrb7, ↓brun_b, Nat.reduceBEq, List.take_zero])
  · rintro ⟨k, hk⟩
    refine Sem.go (k := 1000) ?_
    simp -dsimp (decide := true) (disch := first | omega | simp (decide := true) only [wirrb0]) only [wirrb6, ↓brun_b, Nat.reduceBEq]
    refine SCond.split (fun h => ?_) (fun h => ?_)
    · simp only [decide_eq_true_eq] at h
      have hk' : k < ts.length := by omega
      have hw : IntKind.i64.wrap ((k : Int) + 1) = ((k + 1 : Nat) : Int) := by rw [wrap_i64 _ (by omega)]; rfl
      have hpt := ptexts_take ts k hk'
      have hle := ptexts_le ts (k + 1)
      rw [hpt, List.length_append, List.length_append] at hle
      simp -dsimp (decide := true) (disch := first | omega | simp (decide := true) only [wirrb0]) only [wirrb6, ↓brun_b, Nat.reduceBEq, Nat.reduceLeDiff]
      generalize ts.getD k [] = t at *
      generalize ptexts (ts.take k) = acc at *
      have hwu : IntKind.u64.wrap ((t.length : Nat) : Int) = (t.length : Int) := wrap_u64 _ (by omega)
      simp -dsimp (decide := true) (disch := first | omega | simp (decide := true) only [wirrb0]) only [wirrb8, ↓brun_b, Nat.reduceAdd, hwu]
      refine And.intro (by omega) ?_
      have hln : ∀ n ∈ [t.length], n < 18446744073709551616 := fun n hn => by
        rw [List.mem_singleton.1 hn]
        omega
      have hl9 : [t.length].length * 9 ≤ 140737488355328 := by
        rw [List.length_singleton]
        omega
      refine SemOps.frz (d := 16) (urows [t.length]) rfl rfl rfl (by omega) (fun i r h => ent_ucells h) ?_
      refine SemOps.callq (k := 1000) cal.f44 (putNum_calls [t.length] hln hl9) rfl rfl rfl rfl (by simp only [bflat_a, urows.flat]) (by simp only [bflat_a]) (by simp -dsimp (decide := true) (disch := first | omega | simp (decide := true) only [wirrb0]) only [wirrb9]) ?_
      simp -dsimp (decide := true) (disch := first | omega | simp (decide := true) only [wirrb0]) only [wirrb6, ↓brun_b, Nat.reduceAdd, Nat.reduceBEq, hw, List.flatMap_cons, List.flatMap_nil, sapp1_sl el5]
      refine And.intro (by omega) (And.intro (by omega) ⟨⟨k + 1, by omega⟩, [3], ?_, by show ts.length - (k + 1) < ts.length - k; omega⟩)
      have hl3 : (acc ++ form t.length ++ t).length = acc.length + (form t.length).length + t.length := by rw [List.length_append, List.length_append]
      (refine Wk.ofC ?_; simp -dsimp (decide := true) (disch := first | omega | simp (decide := true) only [wirrb0]) only [wirrb10, ↓brun_b, Nat.reduceAdd, Nat.reduceBEq, hpt, hl3])
      intro e he
      rw [brow_app3 _ _ _ _ he]
      exact EntL.self rfl
    · simp only [decide_eq_false_iff_not] at h
      obtain rfl : k = ts.length := by omega
      have hft : ts.take ts.length = ts := List.take_length
      simp -dsimp (decide := true) (disch := first | omega | simp (decide := true) only [wirrb0]) only [wirrb6, ↓brun_b, reduceIte, Nat.reduceBEq, hft]
      refine SQ.answer (rs := [.tmp 2]) rfl rfl ?_
      simp -dsimp (decide := true) (disch := first | omega | simp (decide := true) only [wirrb0]) only [wirrb11, ↓brun_b, rho]
      refine Ent_row rfl rfl (brows_length _).symm (by omega) fun i r hr => ent_brows hr
end Go.Proofs
