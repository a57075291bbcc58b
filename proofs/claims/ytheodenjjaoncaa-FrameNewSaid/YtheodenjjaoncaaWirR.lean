/- Contracts of functions that the laws reach, on abstract values, and what they need: no conditions but those that each theorem states. -/
import Derived.Test.YtheodenjjaoncaaWirP
import Derived.Test.YtheodenjjaoncaaSlY
set_option linter.unusedVariables false
set_option linter.unusedSimpArgs false
set_option linter.defProp false
namespace Go.SL
open Go
def trows (ts : List (List UInt8)) : List (List SV) := ts.map fun t => [bsl t]
theorem trows_length (ts : List (List UInt8)) : (trows ts).length = ts.length := by simp [trows]
theorem trows_flat (ts : List (List UInt8)) : SV.flatR (trows ts) = true := flatR_map _ _ fun t => by simp only [flatL_cons, flatL_nil, flat_rsl, flatR_brows, Bool.and_self]
def trow (ts : List (List UInt8)) (k : Nat) : List SV := [bsl (ts.getD k [])]
theorem trows_at (ts : List (List UInt8)) (k : Nat) (h : k < ts.length) : (trows ts).getD k [] = trow ts k := by
  simp [trows, trow, List.getD_eq_getElem?_getD, h]
theorem trow_len (ts : List (List UInt8)) (k : Nat) : (trow ts k).length = 1 := Eq.trans rfl rfl
theorem trow_cell (ts : List (List UInt8)) (k : Nat) : cellAt (trow ts k) 0 = bsl (ts.getD k []) := Eq.trans rfl rfl
def ptexts (ts : List (List UInt8)) : List UInt8 := ts.flatMap fun t => form t.length ++ t
theorem ptexts_nil : ptexts [] = [] := Eq.trans rfl rfl
theorem ptexts_take (ts : List (List UInt8)) (k : Nat) (h : k < ts.length) : ptexts (ts.take (k + 1)) = ptexts (ts.take k) ++ form (ts.getD k []).length ++ ts.getD k [] := by
  rw [List.take_add_one, List.getElem?_eq_getElem h, Option.toList_some, List.getD_eq_getElem?_getD, List.getElem?_eq_getElem h, ptexts, List.flatMap_append, List.flatMap_singleton, List.append_assoc]
  rfl
theorem ptexts_le (ts : List (List UInt8)) (k : Nat) : (ptexts (ts.take k)).length ≤ (ptexts ts).length := by
  conv => rhs; rw [← List.take_append_drop k ts]
  simp only [ptexts, List.flatMap_append, List.length_append]
  omega
theorem brow_app3 (a f t : List UInt8) (i : Nat) (hi : i < a.length + f.length + t.length) : (if i < a.length + f.length then if i < a.length then brow a i else brow f (i - a.length) else (brows t).getD (i - (a.length + f.length)) []) = brow (a ++ f ++ t) i := by
  by_cases h1 : i < a.length + f.length
  · rw [if_pos h1]
    by_cases h2 : i < a.length
    · rw [if_pos h2]
      simp only [brow, List.getD_eq_getElem?_getD]
      rw [List.append_assoc, List.getElem?_append_left h2]
    · rw [if_neg h2]
      simp only [brow, List.getD_eq_getElem?_getD]
      rw [List.append_assoc, List.getElem?_append_right (by omega), List.getElem?_append_left (by omega)]
  · rw [if_neg h1, brows_at _ _ (by omega)]
    simp only [brow, List.getD_eq_getElem?_getD]
    rw [List.getElem?_append_right (by rw [List.length_append]; omega), List.length_append]
end Go.SL
namespace Go.Proofs
open Go Go.SL
set_option maxRecDepth 100000
end Go.Proofs
namespace Go.Proofs
open Go Go.SL
set_option maxRecDepth 100000
end Go.Proofs
namespace Go.Proofs
open Go Go.SL
set_option maxRecDepth 100000
end Go.Proofs
namespace Go.SL
open Go
theorem getNum_form (pre post : List UInt8) (n : Nat) (hn : n < 18446744073709551616) : getNum (pre ++ (form n ++ post)) pre.length = (n, (pre.length : Int) + (form n).length, 0) := by
  have hw := wide_le8 n hn
  have hfl := form_length n
  have hlen : (pre ++ (form n ++ post)).length = pre.length + (wide n + 1 + post.length) := by rw [List.length_append, List.length_append, hfl]
  have hd1 : (pre ++ (form n ++ post)).drop (pre.length + 1) = bigEnd (wide n) n ++ post := by
    rw [List.drop_append, List.drop_of_length_le (by omega), Nat.add_sub_cancel_left, List.nil_append, form]
    rfl
  have hg0 : (pre ++ (form n ++ post)).getD pre.length 0 = UInt8.ofNat (wide n) := by
    rw [List.getD_eq_getElem?_getD, List.getElem?_append_right (Nat.le_refl _), Nat.sub_self, form]
    rfl
  have hc : (UInt8.ofNat (wide n)).toNat = wide n := by
    rw [UInt8.toNat_ofNat']
    omega
  have ht : ((pre ++ (form n ++ post)).drop (pre.length + 1)).take (wide n) = bigEnd (wide n) n := by
    rw [hd1, List.take_left' (bigEnd_length _ _)]
  have hb : numB (bigEnd (wide n) n) = n := numB_bigEnd _ _ (wide_lt n)
  have hlead : 0 < wide n → ¬ ((pre ++ (form n ++ post)).getD (pre.length + 1) 0).toNat = 0 := fun hp h0 => by
    have e : (pre ++ (form n ++ post)).getD (pre.length + 1) 0 = byteAt (wide n) n 0 := by
      have e1 : ((pre ++ (form n ++ post)).drop (pre.length + 1)).getD 0 0 = (pre ++ (form n ++ post)).getD (pre.length + 1) 0 := getD_drop _ _ _
      rw [← e1, hd1, List.getD_eq_getElem?_getD, List.getElem?_append_left (by rw [bigEnd_length]; exact hp), bigEnd, List.getElem?_map, List.getElem?_range hp]
      rfl
    rw [e, byteAt, UInt8.toNat_ofNat'] at h0
    have h1 := (wide_gt n (wide n - 1)).1 (by omega)
    have h2 := wide_lt n
    have h3 : 256 ^ wide n = 256 ^ (wide n - 1) * 256 := by rw [← Nat.pow_succ]; congr 1; omega
    have hpos : 0 < 256 ^ (wide n - 1) := Nat.pow_pos (by omega)
    have h4 : 0 < n / 256 ^ (wide n - 1 - 0) := Nat.div_pos h1 hpos
    have h5 : n / 256 ^ (wide n - 1 - 0) < 256 := by
      rw [Nat.sub_zero, Nat.div_lt_iff_lt_mul hpos]
      rw [h3] at h2
      omega
    omega
  unfold getNum
  rw [if_neg (by rw [hlen]; omega), if_neg (by rw [hlen]; omega)]
  simp only [Int.toNat_natCast]
  rw [hg0, hc, if_neg (by omega), if_neg (by rw [hlen]; omega), if_neg (fun h => hlead h.1 h.2), ht, hb, hfl]
  congr 2
  omega
end Go.SL
namespace Go.Proofs
open Go Go.SL
set_option maxRecDepth 100000
theorem bs44_1 (N : Nat) (t : List UInt8) : sBuildSlice Try.prog N 44 1 [(0, bsl t)] = some ⟨.slc N 0 1, ⟨none, some (.row ⟨1, 1, true, 35, fun e => (([bsl t] : List SV).drop (e * 1)).take 1⟩)⟩, True⟩ :=
  buildSlice_one tab.u44 tab.s35 tab.z35 (by decide) rfl (by decide) [bsl t] _ rfl rfl rfl
end Go.Proofs
namespace Go.Proofs
open Go Go.SL
set_option maxRecDepth 100000
theorem brow_app2 (a f : List UInt8) (i : Nat) (hi : i < a.length + f.length) : (if i < a.length then brow a i else brow f (i - a.length)) = brow (a ++ f) i := by
  by_cases h2 : i < a.length
  · rw [if_pos h2]
    simp only [brow, List.getD_eq_getElem?_getD]
    rw [List.getElem?_append_left h2]
  · rw [if_neg h2]
    simp only [brow, List.getD_eq_getElem?_getD]
    rw [List.getElem?_append_right (by omega)]
theorem brow_app2r (a f : List UInt8) (i : Nat) (hi : i < a.length + f.length) : (if i < a.length then brow a i else (brows f).getD (i - a.length) []) = brow (a ++ f) i := by
  rw [← brow_app2 a f i hi]
  by_cases h : i < a.length
  · rw [if_pos h, if_pos h]
  · rw [if_neg h, if_neg h, brows_at _ _ (by omega)]
end Go.Proofs
namespace Go.SL
open Go
end Go.SL
namespace Go.Proofs
open Go Go.SL
set_option maxRecDepth 100000
end Go.Proofs
namespace Go.Proofs
open Go Go.SL
set_option maxRecDepth 100000
def wirrb0 :=
  (aI (aI (aI @bdset_a @brow_flat) (aI @nres.flat @tres.flat)) (aI (aI @trow_len @trows_flat) (aI @trows_length @urows.flat)))
def wirrc0 :=
  (aI (aI (aI @beq_self_eq_true.{0} (aI @brun_a @cond_false.{1})) (aI @cond_true.{1} (aI @tab.a35 @tab.a5))) (aI (aI @tab.s35 (aI @tab.s5 @tab.u3)) (aI (aI @tab.u35 @tab.u36) (aI @tab.u44 @tab.u5))))
def wirrb1 :=
  (aI (aI wirrc0 (aI @brow_cell @brows_at)) (aI (aI @trow_cell @trow_len) (aI @trows_at @trows_length)))
def wirrb2 :=
  (aI (aI (aI wirrc0 (aI @brow_cell @brows_at)) (aI @bwk_a (aI @eq_self.{1} @forall_const.{1}))) (aI (aI @implies_true.{0} (aI @implies_true.{1} @ptexts_nil)) (aI (aI @trow_cell @trow_len) (aI @trows_at @trows_length))))
def wirrb3 :=
  (aI (aI (aI wirrc0 @brow_cell) (aI @brows_at @bs43_1)) (aI (aI @trow_cell @trow_len) (aI @trows_at @trows_length)))
def wirrb5 :=
  (aI (aI (aI wirrc0 (aI @brow_cell @brows_at)) (aI @bwk_a (aI @eq_self.{1} @forall_const.{1}))) (aI (aI @implies_true.{0} (aI @implies_true.{1} @trow_cell)) (aI @trow_len (aI @trows_at @trows_length))))
def wirrb6 :=
  (aI (aI wirrc0 (aI @bwk_a @eq_self.{1})) (aI @forall_const.{1} (aI @implies_true.{0} @implies_true.{1})))
theorem putText_calls (ts : List (List UInt8)) (hb : (ptexts ts).length ≤ 140737488355328) (hts : ts.length < 4611686018427387904) : Pure Try.prog 47 [.rsl 1 (trows ts)] (bsl (ptexts ts)) := by
  refine SCall.mk (fn := Try.f47) (by kernel_rfl) rfl (Nat.le_of_ble_eq_true (by kernel_rfl)) ?_
  refine goC ?_
  simp -dsimp +decide (disch := first | omega | simp +decide only [wirrb0]) only [wirrb1, ↓brun_b, envOf, Nat.reduceBEq]
  refine Sem.ghost 3 1 5 rfl ?_
  refine Sem.loop (ι := {k : Nat // k ≤ ts.length}) (fun k => ⟨23, 0, [(6, .rsl 1 (trows ts)), (7, .v (.int .i64 (ts.length : Int))), (8, .v (.int .i64 (k.1 : Int))), (3, .slc 0 0 (ptexts (ts.take k.1)).length)], [some (.row ⟨1, (ptexts (ts.take k.1)).length, true, 5, brow (ptexts (ts.take k.1))⟩)]⟩) (fun k => ts.length - k.1) ⟨0, by omega⟩ [0] ?_ ?_
  · (refine Wk.ofC ?_; simp -dsimp +decide (disch := first | omega | simp +decide only [wirrb0]) only [wirrb2, ↓brun_b, Nat.reduceBEq, List.take_zero])
  · rintro ⟨k, hk⟩
    refine goC ?_
    simp -dsimp +decide (disch := first | omega | simp +decide only [wirrb0]) only [wirrb1, ↓brun_b, Nat.reduceBEq]
    refine SCond.split (fun h => ?_) (fun h => ?_)
    · simp only [decide_eq_true_eq] at h
      have hk' : k < ts.length := by omega
      have hw : IntKind.i64.wrap ((k : Int) + 1) = ((k + 1 : Nat) : Int) := by rw [wrap_i64 _ (by omega)]; rfl
      have hpt := ptexts_take ts k hk'
      have hle := ptexts_le ts (k + 1)
      rw [hpt, List.length_append, List.length_append] at hle
      simp -dsimp +decide (disch := first | omega | simp +decide only [wirrb0]) only [wirrb1, ↓brun_b, Nat.reduceBEq, Nat.reduceLeDiff]
      generalize ts.getD k [] = t at *
      generalize ptexts (ts.take k) = acc at *
      have hwu : IntKind.u64.wrap ((t.length : Nat) : Int) = (t.length : Int) := wrap_u64 _ (by omega)
      simp -dsimp +decide (disch := first | omega | simp +decide only [wirrb0]) only [wirrb3, ↓brun_b, Nat.reduceAdd, hwu]
      refine And.intro (by omega) ?_
      have hln : ∀ n ∈ [t.length], n < 18446744073709551616 := fun n hn => by
        rw [List.mem_singleton.1 hn]
        omega
      have hl9 : [t.length].length * 9 ≤ 140737488355328 := by
        rw [List.length_singleton]
        omega
      refine SemOps.frz (d := 16) (urows [t.length]) rfl rfl rfl (by omega) (fun i r h => ent_ucells h) ?_
      refine SemOps.callq (k := 1000) cal.f44 (putNum_calls [t.length] hln hl9) rfl rfl rfl rfl (by simp only [bflat_a, urows.flat]) (by simp only [bflat_a]) (dK rfl) ?_
      simp -dsimp +decide (disch := first | omega | simp +decide only [wirrb0]) only [wirrb1, ↓brun_b, Nat.reduceAdd, Nat.reduceBEq, hw, List.flatMap_cons, List.flatMap_nil, sapp1_sl el5]
      refine And.intro (by omega) (And.intro (by omega) ⟨⟨k + 1, by omega⟩, [3], ?_, by show ts.length - (k + 1) < ts.length - k; omega⟩)
      have hl3 : (acc ++ form t.length ++ t).length = acc.length + (form t.length).length + t.length := by rw [List.length_append, List.length_append]
      (refine Wk.ofC ?_; simp -dsimp +decide (disch := first | omega | simp +decide only [wirrb0]) only [wirrb5, ↓brun_b, Nat.reduceAdd, Nat.reduceBEq, hpt, hl3])
      intro e he
      rw [brow_app3 _ _ _ _ he]
      exact EntL.self rfl
    · simp only [decide_eq_false_iff_not] at h
      obtain rfl : k = ts.length := by omega
      have hft : ts.take ts.length = ts := List.take_length
      simp -dsimp +decide (disch := first | omega | simp +decide only [wirrb0]) only [wirrb1, ↓brun_b, reduceIte, Nat.reduceBEq, hft]
      refine SQ.answer (rs := [.tmp 2]) rfl rfl ?_
      simp -dsimp +decide (disch := first | omega | simp +decide only [wirrb0]) only [wirrb6, ↓brun_b, rho]
      refine Ent_row rfl rfl (brows_length _).symm (by omega) fun i r hr => ent_brows hr
end Go.Proofs
