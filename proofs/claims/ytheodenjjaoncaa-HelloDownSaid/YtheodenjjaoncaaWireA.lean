/- Numbers laid in bytes: what wire.PutNum answers. Condition: the numbers' bytes fit. -/
import Derived.Test.YtheodenjjaoncaaRepD
import Derived.Test.YtheodenjjaoncaaTabC
import Derived.Test.YtheodenjjaoncaaSlP
set_option linter.unusedVariables false
set_option linter.unusedSimpArgs false
namespace Go.SL
open Go
set_option maxRecDepth 100000
/-- The element of a row of bytes. -/
def brow (l : List UInt8) (e : Nat) : List SV := [.v (.int .u8 ((l.getD e 0).toNat : Int))]
theorem brow_flat (l : List UInt8) (e : Nat) : SV.flatL (brow l e) = true := Eq.trans rfl rfl
theorem brows_get {l : List UInt8} {i : Nat} {r : List SV} (h : (brows l)[i]? = some r) : i < l.length ∧ r = brow l i := by
  unfold brows at h
  rw [List.getElem?_map] at h
  obtain ⟨x, hx, rfl⟩ := Option.map_eq_some_iff.1 h
  exact ⟨(List.getElem?_eq_some_iff.1 hx).1, by rw [brow, List.getD_eq_getElem?_getD, hx]; rfl⟩
theorem brows_at (l : List UInt8) (i : Nat) (h : i < l.length) : (brows l).getD i [] = brow l i := by
  rw [brows_getD l i h]; rfl
theorem ent_brow_app {fz : Nat → Option SB} {ρ : Nat → Nat} {l l' : List UInt8} {n : Nat} (hn : l.length = n) {g : Nat → List SV} (hg : ∀ i, i < l'.length → g i = brow l' i) {e : Nat} (he : e < n + l'.length) : EntL fz ρ (brow (l ++ l') e) (if e < n then brow l e else g (e - n)) := by
  have : (if e < n then brow l e else g (e - n)) = brow (l ++ l') e := by
    split
    · rename_i h
      simp [brow, List.getD_eq_getElem?_getD, List.getElem?_append_left (show e < l.length by omega)]
    · rename_i h
      rw [hg _ (by omega)]
      simp [brow, List.getD_eq_getElem?_getD, List.getElem?_append_right (show l.length ≤ e by omega), hn]
  rw [this]
  exact EntL.self rfl
theorem ent_brows {fz : Nat → Option SB} {ρ : Nat → Nat} {l : List UInt8} {i : Nat} {r : List SV} (h : (brows l)[i]? = some r) : EntL fz ρ r (brow l (0 + i)) := by
  obtain ⟨_, rfl⟩ := brows_get h
  rw [Nat.zero_add]
  exact EntL.self rfl
theorem brow_cell (l : List UInt8) (e : Nat) : cellAt (brow l e) 0 = .v (.int .u8 ((l.getD e 0).toNat : Int)) := Eq.trans rfl rfl
theorem brow_len (l : List UInt8) (e : Nat) : (brow l e).length = 1 := Eq.trans rfl rfl

/-- How many bytes a number takes. -/
def wide (n : Nat) : Nat := if n = 0 then 0 else n.log2 / 8 + 1
theorem pow2_8 (k : Nat) : 2 ^ (8 * k) = 256 ^ k := by rw [Nat.pow_mul]
theorem wide_gt (n k : Nat) : k < wide n ↔ 256 ^ k ≤ n := by
  unfold wide
  by_cases h : n = 0
  · subst h
    simp
  · rw [if_neg h, ← pow2_8, ← Nat.le_log2 h]
    omega
theorem wide_le8 (n : Nat) (h : n < 18446744073709551616) : wide n ≤ 8 := by
  rcases Nat.lt_or_ge 8 (wide n) with h1 | h1
  · rw [wide_gt] at h1
    simp at h1
    omega
  · exact h1
theorem wide_lt (n : Nat) : n < 256 ^ wide n := by
  rcases Nat.lt_or_ge n (256 ^ wide n) with h | h
  · exact h
  · exact absurd ((wide_gt n _).2 h) (Nat.lt_irrefl _)
/-- The i-th byte of so many, the highest first. -/
def byteAt (w n i : Nat) : UInt8 := UInt8.ofNat (n / 256 ^ (w - 1 - i))
def bigEnd (w n : Nat) : List UInt8 := (List.range w).map (byteAt w n)
theorem bigEnd_length (w n : Nat) : (bigEnd w n).length = w := by simp [bigEnd]
theorem bigEnd_take (w n i : Nat) (h : i < w) : (bigEnd w n).take (i + 1) = (bigEnd w n).take i ++ [byteAt w n i] := by
  rw [List.take_add_one]
  simp [bigEnd, h]
/-- A number's form. -/
def form (n : Nat) : List UInt8 := UInt8.ofNat (wide n) :: bigEnd (wide n) n
theorem form_length (n : Nat) : (form n).length = wide n + 1 := by simp [form, bigEnd_length]
def urow (n : Nat) : List SV := [.v (.int .u64 (n : Int))]
def urows (ns : List Nat) : List (List SV) := ns.map urow
theorem urows_length (ns : List Nat) : (urows ns).length = ns.length := by simp [urows]
theorem urows_at (ns : List Nat) (i : Nat) (h : i < ns.length) : (urows ns).getD i [] = urow (ns.getD i 0) := by simp [urows, List.getD_eq_getElem?_getD, h]
theorem urows.flat (ns : List Nat) : SV.flatR (urows ns) = true := flatR_map _ _ fun _ => rfl
theorem urow_cell (n : Nat) : cellAt (urow n) 0 = .v (.int .u64 (n : Int)) := Eq.trans rfl rfl
theorem urow_len (n : Nat) : (urow n).length = 1 := Eq.trans rfl rfl
theorem forms_take (ns : List Nat) (i : Nat) (h : i < ns.length) : (ns.take (i + 1)).flatMap form = (ns.take i).flatMap form ++ form (ns.getD i 0) := by
  rw [List.take_add_one, List.getElem?_eq_getElem h, Option.toList_some, List.flatMap_append, List.getD_eq_getElem?_getD, List.getElem?_eq_getElem h]
  simp
theorem forms_len (ns : List Nat) (h : ∀ n ∈ ns, n < 18446744073709551616) : (ns.flatMap form).length ≤ ns.length * 9 := by
  induction ns with
  | nil => simp
  | cons n ns ih =>
    have h1 := ih fun m hm => h m (by simp [hm])
    have h2 := wide_le8 n (h n (by simp))
    simp only [List.flatMap_cons, List.length_append, form_length, List.length_cons]
    omega
theorem fdiv_nat (n m : Nat) : (n : Int).fdiv ((m : Nat) : Int) = ((n / m : Nat) : Int) := by
  rw [Int.fdiv_eq_ediv_of_nonneg _ (Int.natCast_nonneg m)]
  rfl
theorem shr_u64 (n k : Nat) (hk : k ≤ 8) : (n : Int).fdiv (2 ^ (min (8 * k) IntKind.u64.bits)) = ((n / 256 ^ k : Nat) : Int) := by
  have h1 : min (8 * k) IntKind.u64.bits = 8 * k := by
    have : IntKind.u64.bits = 64 := rfl
    rw [this]
    omega
  rw [h1, ← fdiv_nat, ← pow2_8]
  congr 1
theorem wrap_u8_nat (n : Nat) : IntKind.u8.wrap (n : Int) = ((UInt8.ofNat n).toNat : Int) := by
  unfold IntKind.wrap
  simp [IntKind.bits, IntKind.signed]
end Go.SL
namespace Go.Proofs
open Go Go.SL
set_option maxRecDepth 100000
theorem el5 : ElTy Try.prog 5 1 1 := ⟨tab.s5, tab.b5, ⟨_, tab.z5, rfl⟩, by decide, by decide⟩
theorem bs35 (N : Nat) (x : Int) : sBuildSlice Try.prog N 35 1 [(0, .v (.int .u8 x))] = some ⟨.slc N 0 1, ⟨none, some (.row ⟨1, 1, true, 5, fun e => (([.v (.int .u8 x)] : List SV).drop (e * 1)).take 1⟩)⟩, True⟩ :=
  buildSlice_one tab.u35 tab.s5 tab.z5 (by decide) rfl (by decide) [.v (.int .u8 x)] _ rfl rfl rfl
theorem one_brow (c : UInt8) (i : Nat) (h : i < [c].length) : (([.v (.int .u8 (c.toNat : Int))] : List SV).drop i).take 1 = brow [c] i := by
  obtain rfl : i = 0 := by simp at h; exact h
  rfl

theorem putNum_calls (ns : List Nat) (hn : ∀ n ∈ ns, n < 18446744073709551616) (hb : ns.length * 9 ≤ 140737488355328) : Pure Try.prog 44 [.rsl 1 (urows ns)] (bsl (ns.flatMap form)) := by
  refine SCall.mk (fn := Try.f44) (by kernel_rfl) rfl (Nat.le_of_ble_eq_true (by kernel_rfl)) ?_
  refine Sem.go (k := 1000) ?_
  simp -dsimp (decide := true) (maxSteps := 1000000) (disch := first | omega | simp (decide := true) only [bdset_a, urows.flat, urows_length, brow_len, urow_len, brow_flat]) only [brun_a, ↓brun_b, envOf, reduceIte, Nat.reduceEqDiff, Nat.reduceAdd, Nat.reduceSub, Nat.reduceMul, Nat.reduceBEq, Nat.reduceLeDiff, Nat.reduceLT, beq_self_eq_true, cond_true, cond_false, Int.reduceToNat, tab.u3, tab.s3, tab.a3, tab.u5, tab.s5, tab.a5, tab.u35, tab.s35, tab.a35, tab.u36, tab.s36, tab.a36, tab.u43, tab.s43, tab.a43, brow_len, brow_cell, brows_at, urows_length, urows_at, urow_cell, urow_len]
  refine Sem.ghost 3 1 5 rfl ?_
  refine Sem.loop (ι := {k : Nat // k ≤ ns.length}) (fun k => ⟨48, 0, [(8, .rsl 1 (urows ns)), (9, .v (.int .i64 (ns.length : Int))), (10, .v (.int .i64 (k.1 : Int))), (3, .slc 0 0 ((ns.take k.1).flatMap form).length)], [some (.row ⟨1, ((ns.take k.1).flatMap form).length, true, 5, brow ((ns.take k.1).flatMap form)⟩)]⟩) (fun k => ns.length - k.1) ⟨0, by omega⟩ [0] ?_ ?_
  · (refine Wk.ofC ?_; simp -dsimp (decide := true) (maxSteps := 1000000) (disch := first | omega | simp (decide := true) only [bdset_a, urows.flat, urows_length, brow_len, urow_len, brow_flat]) only [brun_a, ↓brun_b, envOf, reduceIte, Nat.reduceEqDiff, Nat.reduceAdd, Nat.reduceSub, Nat.reduceMul, Nat.reduceBEq, Nat.reduceLeDiff, Nat.reduceLT, beq_self_eq_true, cond_true, cond_false, Int.reduceToNat, tab.u3, tab.s3, tab.a3, tab.u5, tab.s5, tab.a5, tab.u35, tab.s35, tab.a35, tab.u36, tab.s36, tab.a36, tab.u43, tab.s43, tab.a43, brow_len, brow_cell, brows_at, urows_length, urows_at, urow_cell, urow_len, List.take_zero, List.flatMap_nil, bwk_a, frz1, eq_self, implies_true, rho, ↓reduceIte, forall_const])
  · rintro ⟨k, hk⟩
    refine Sem.go (k := 1000) ?_
    simp -dsimp (decide := true) (maxSteps := 1000000) (disch := first | omega | simp (decide := true) only [bdset_a, urows.flat, urows_length, brow_len, urow_len, brow_flat]) only [brun_a, ↓brun_b, envOf, reduceIte, Nat.reduceEqDiff, Nat.reduceAdd, Nat.reduceSub, Nat.reduceMul, Nat.reduceBEq, Nat.reduceLeDiff, Nat.reduceLT, beq_self_eq_true, cond_true, cond_false, Int.reduceToNat, tab.u3, tab.s3, tab.a3, tab.u5, tab.s5, tab.a5, tab.u35, tab.s35, tab.a35, tab.u36, tab.s36, tab.a36, tab.u43, tab.s43, tab.a43, brow_len, brow_cell, brows_at, urows_length, urows_at, urow_cell, urow_len]
    refine SCond.split (fun h => ?_) (fun h => ?_)
    · simp only [decide_eq_true_eq] at h
      have hk' : k < ns.length := by omega
      have hw : IntKind.i64.wrap ((k : Int) + 1) = ((k + 1 : Nat) : Int) := by rw [wrap_i64 _ (by omega)]; rfl
      have hft := forms_take ns k hk'
      have hlen := forms_len (ns.take k) fun n h => hn n (List.mem_of_mem_take h)
      have hmem : ns.getD k 0 ∈ ns := by rw [List.getD_eq_getElem?_getD, List.getElem?_eq_getElem hk', Option.getD_some]; exact List.getElem_mem hk'
      have hnn := hn _ hmem
      simp -dsimp (decide := true) (maxSteps := 1000000) (disch := first | omega | simp (decide := true) only [bdset_a, urows.flat, urows_length, brow_len, urow_len, brow_flat]) only [brun_a, ↓brun_b, envOf, reduceIte, Nat.reduceEqDiff, Nat.reduceAdd, Nat.reduceSub, Nat.reduceMul, Nat.reduceBEq, Nat.reduceLeDiff, Nat.reduceLT, beq_self_eq_true, cond_true, cond_false, Int.reduceToNat, tab.u3, tab.s3, tab.a3, tab.u5, tab.s5, tab.a5, tab.u35, tab.s35, tab.a35, tab.u36, tab.s36, tab.a36, tab.u43, tab.s43, tab.a43, brow_len, brow_cell, brows_at, urows_length, urows_at, urow_cell, urow_len, hw]
      generalize ns.getD k 0 = n at *
      generalize (ns.take k).flatMap form = acc at *
      refine ⟨⟨by omega, by omega⟩, ?_⟩
      have hw8 := wide_le8 n hnn
      have hacc : acc.length ≤ k * 9 := by rw [List.length_take, Nat.min_eq_left hk] at hlen; exact hlen
      have hkb : k * 9 + 9 ≤ ns.length * 9 := by have := Nat.mul_le_mul_right 9 hk'; omega
      refine Sem.cutW [_, _] ⟨48, 0, [(5, .v (.int .u64 (n : Int))), (6, .v (.int .i64 (wide n : Int))), (8, .rsl 1 (urows ns)), (9, .v (.int .i64 (ns.length : Int))), (10, .v (.int .i64 (k : Int))), (3, .slc 0 0 acc.length)], [some (.row ⟨1, acc.length, true, 5, brow acc⟩)]⟩ ?_ ?_
      · refine Sem.loop (ι := {j : Nat // j ≤ wide n}) (fun j => ⟨48, 0, [(5, .v (.int .u64 (n : Int))), (6, .v (.int .i64 (j.1 : Int))), (8, .rsl 1 (urows ns)), (9, .v (.int .i64 (ns.length : Int))), (10, .v (.int .i64 (k : Int))), (3, .slc 0 0 acc.length)], [some (.row ⟨1, acc.length, true, 5, brow acc⟩)]⟩) (fun j => wide n - j.1) ⟨0, Nat.zero_le _⟩ [0] ?_ ?_
        · (refine Wk.ofC ?_; simp -dsimp (decide := true) (maxSteps := 1000000) (disch := first | omega | simp (decide := true) only [bdset_a, urows.flat, urows_length, brow_len, urow_len, brow_flat]) only [brun_a, ↓brun_b, envOf, reduceIte, Nat.reduceEqDiff, Nat.reduceAdd, Nat.reduceSub, Nat.reduceMul, Nat.reduceBEq, Nat.reduceLeDiff, Nat.reduceLT, beq_self_eq_true, cond_true, cond_false, Int.reduceToNat, tab.u3, tab.s3, tab.a3, tab.u5, tab.s5, tab.a5, tab.u35, tab.s35, tab.a35, tab.u36, tab.s36, tab.a36, tab.u43, tab.s43, tab.a43, brow_len, brow_cell, brows_at, urows_length, urows_at, urow_cell, urow_len, bwk_a, frz1, eq_self, implies_true, rho, ↓reduceIte, forall_const])
        · rintro ⟨j, hj⟩
          refine Sem.go (k := 1000) ?_
          have hw1 : IntKind.i64.wrap (8 * (j : Int)) = ((8 * j : Nat) : Int) := by rw [wrap_i64 _ (by omega)]; omega
          have hw2 : IntKind.i64.wrap ((j : Int) + 1) = ((j + 1 : Nat) : Int) := by rw [wrap_i64 _ (by omega)]; rfl
          have hs := shr_u64 n j (by omega)
          have hgt := wide_gt n j
          simp -dsimp (decide := true) (maxSteps := 1000000) (disch := first | omega | simp (decide := true) only [bdset_a, urows.flat, urows_length, brow_len, urow_len, brow_flat]) only [brun_a, ↓brun_b, envOf, reduceIte, Nat.reduceEqDiff, Nat.reduceAdd, Nat.reduceSub, Nat.reduceMul, Nat.reduceBEq, Nat.reduceLeDiff, Nat.reduceLT, beq_self_eq_true, cond_true, cond_false, Int.reduceToNat, tab.u3, tab.s3, tab.a3, tab.u5, tab.s5, tab.a5, tab.u35, tab.s35, tab.a35, tab.u36, tab.s36, tab.a36, tab.u43, tab.s43, tab.a43, brow_len, brow_cell, brows_at, urows_length, urows_at, urow_cell, urow_len, hw1, hs]
          refine SIf.split (fun h1 => ?_) (fun h1 => ?_)
          · simp -dsimp (decide := true) (maxSteps := 1000000) (disch := first | omega | simp (decide := true) only [bdset_a, urows.flat, urows_length, brow_len, urow_len, brow_flat]) only [brun_a, ↓brun_b, envOf, reduceIte, Nat.reduceEqDiff, Nat.reduceAdd, Nat.reduceSub, Nat.reduceMul, Nat.reduceBEq, Nat.reduceLeDiff, Nat.reduceLT, beq_self_eq_true, cond_true, cond_false, Int.reduceToNat, tab.u3, tab.s3, tab.a3, tab.u5, tab.s5, tab.a5, tab.u35, tab.s35, tab.a35, tab.u36, tab.s36, tab.a36, tab.u43, tab.s43, tab.a43, brow_len, brow_cell, brows_at, urows_length, urows_at, urow_cell, urow_len, h1, hw1, hs]
            refine ⟨by omega, ?_⟩
            refine SCond.split (fun h2 => ?_) (fun h2 => ?_)
            · simp -dsimp (decide := true) (maxSteps := 1000000) (disch := first | omega | simp (decide := true) only [bdset_a, urows.flat, urows_length, brow_len, urow_len, brow_flat]) only [brun_a, ↓brun_b, envOf, reduceIte, Nat.reduceEqDiff, Nat.reduceAdd, Nat.reduceSub, Nat.reduceMul, Nat.reduceBEq, Nat.reduceLeDiff, Nat.reduceLT, beq_self_eq_true, cond_true, cond_false, Int.reduceToNat, tab.u3, tab.s3, tab.a3, tab.u5, tab.s5, tab.a5, tab.u35, tab.s35, tab.a35, tab.u36, tab.s36, tab.a36, tab.u43, tab.s43, tab.a43, brow_len, brow_cell, brows_at, urows_length, urows_at, urow_cell, urow_len, hw2]
              simp only [decide_eq_true_eq] at h2
              have h3 : j < wide n := by
                rw [hgt]
                have : 0 < n / 256 ^ j := by omega
                exact (Nat.div_pos_iff.1 this).2
              refine ⟨⟨j + 1, h3⟩, [0], ?_, by show wide n - (j + 1) < wide n - j; omega⟩
              (refine Wk.ofC ?_; simp -dsimp (decide := true) (maxSteps := 1000000) (disch := first | omega | simp (decide := true) only [bdset_a, urows.flat, urows_length, brow_len, urow_len, brow_flat]) only [brun_a, ↓brun_b, envOf, reduceIte, Nat.reduceEqDiff, Nat.reduceAdd, Nat.reduceSub, Nat.reduceMul, Nat.reduceBEq, Nat.reduceLeDiff, Nat.reduceLT, beq_self_eq_true, cond_true, cond_false, Int.reduceToNat, tab.u3, tab.s3, tab.a3, tab.u5, tab.s5, tab.a5, tab.u35, tab.s35, tab.a35, tab.u36, tab.s36, tab.a36, tab.u43, tab.s43, tab.a43, brow_len, brow_cell, brows_at, urows_length, urows_at, urow_cell, urow_len, bwk_a, frz1, eq_self, implies_true, rho, ↓reduceIte, forall_const])
            · simp -dsimp (decide := true) (maxSteps := 1000000) (disch := first | omega | simp (decide := true) only [bdset_a, urows.flat, urows_length, brow_len, urow_len, brow_flat]) only [brun_a, ↓brun_b, envOf, reduceIte, Nat.reduceEqDiff, Nat.reduceAdd, Nat.reduceSub, Nat.reduceMul, Nat.reduceBEq, Nat.reduceLeDiff, Nat.reduceLT, beq_self_eq_true, cond_true, cond_false, Int.reduceToNat, tab.u3, tab.s3, tab.a3, tab.u5, tab.s5, tab.a5, tab.u35, tab.s35, tab.a35, tab.u36, tab.s36, tab.a36, tab.u43, tab.s43, tab.a43, brow_len, brow_cell, brows_at, urows_length, urows_at, urow_cell, urow_len]
              simp only [decide_eq_false_iff_not] at h2
              have h3 : ¬ j < wide n := by
                rw [hgt]
                intro h4
                have : 0 < n / 256 ^ j := Nat.div_pos h4 (Nat.pow_pos (by omega))
                omega
              obtain rfl : j = wide n := by omega
              refine ⟨[0], ?_⟩
              (refine Wk.ofC ?_; simp -dsimp (decide := true) (maxSteps := 1000000) (disch := first | omega | simp (decide := true) only [bdset_a, urows.flat, urows_length, brow_len, urow_len, brow_flat]) only [brun_a, ↓brun_b, envOf, reduceIte, Nat.reduceEqDiff, Nat.reduceAdd, Nat.reduceSub, Nat.reduceMul, Nat.reduceBEq, Nat.reduceLeDiff, Nat.reduceLT, beq_self_eq_true, cond_true, cond_false, Int.reduceToNat, tab.u3, tab.s3, tab.a3, tab.u5, tab.s5, tab.a5, tab.u35, tab.s35, tab.a35, tab.u36, tab.s36, tab.a36, tab.u43, tab.s43, tab.a43, brow_len, brow_cell, brows_at, urows_length, urows_at, urow_cell, urow_len, bwk_a, frz1, eq_self, implies_true, rho, ↓reduceIte, forall_const])
          · simp -dsimp (decide := true) (maxSteps := 1000000) (disch := first | omega | simp (decide := true) only [bdset_a, urows.flat, urows_length, brow_len, urow_len, brow_flat]) only [brun_a, ↓brun_b, envOf, reduceIte, Nat.reduceEqDiff, Nat.reduceAdd, Nat.reduceSub, Nat.reduceMul, Nat.reduceBEq, Nat.reduceLeDiff, Nat.reduceLT, beq_self_eq_true, cond_true, cond_false, Int.reduceToNat, tab.u3, tab.s3, tab.a3, tab.u5, tab.s5, tab.a5, tab.u35, tab.s35, tab.a35, tab.u36, tab.s36, tab.a36, tab.u43, tab.s43, tab.a43, brow_len, brow_cell, brows_at, urows_length, urows_at, urow_cell, urow_len, h1]
            simp only [decide_eq_false_iff_not] at h1
            obtain rfl : j = wide n := by omega
            refine ⟨[0], ?_⟩
            (refine Wk.ofC ?_; simp -dsimp (decide := true) (maxSteps := 1000000) (disch := first | omega | simp (decide := true) only [bdset_a, urows.flat, urows_length, brow_len, urow_len, brow_flat]) only [brun_a, ↓brun_b, envOf, reduceIte, Nat.reduceEqDiff, Nat.reduceAdd, Nat.reduceSub, Nat.reduceMul, Nat.reduceBEq, Nat.reduceLeDiff, Nat.reduceLT, beq_self_eq_true, cond_true, cond_false, Int.reduceToNat, tab.u3, tab.s3, tab.a3, tab.u5, tab.s5, tab.a5, tab.u35, tab.s35, tab.a35, tab.u36, tab.s36, tab.a36, tab.u43, tab.s43, tab.a43, brow_len, brow_cell, brows_at, urows_length, urows_at, urow_cell, urow_len, bwk_a, frz1, eq_self, implies_true, rho, ↓reduceIte, forall_const])
      · refine Sem.go (k := 1000) ?_
        have hw3 := wrap_u8_nat (wide n)
        simp -dsimp (decide := true) (maxSteps := 1000000) (disch := first | omega | simp (decide := true) only [bdset_a, urows.flat, urows_length, brow_len, urow_len, brow_flat]) only [brun_a, ↓brun_b, envOf, reduceIte, Nat.reduceEqDiff, Nat.reduceAdd, Nat.reduceSub, Nat.reduceMul, Nat.reduceBEq, Nat.reduceLeDiff, Nat.reduceLT, beq_self_eq_true, cond_true, cond_false, Int.reduceToNat, tab.u3, tab.s3, tab.a3, tab.u5, tab.s5, tab.a5, tab.u35, tab.s35, tab.a35, tab.u36, tab.s36, tab.a36, tab.u43, tab.s43, tab.a43, brow_len, brow_cell, brows_at, urows_length, urows_at, urow_cell, urow_len, hw3, bs35, sapp1_sl el5]
        refine ⟨⟨Nat.le_refl _, by omega⟩, ?_⟩
        refine Sem.loop (ι := {i : Nat // i ≤ wide n}) (fun i => ⟨48, 0, [(5, .v (.int .u64 (n : Int))), (6, .v (.int .i64 (wide n : Int))), (30, .v (.int .i64 (wide n : Int))), (31, .v (.int .i64 (i.1 : Int))), (8, .rsl 1 (urows ns)), (9, .v (.int .i64 (ns.length : Int))), (10, .v (.int .i64 (k : Int))), (3, .slc 0 0 (acc.length + 1 + i.1))],
          [some (.row ⟨1, acc.length + 1 + i.1, true, 5, brow (acc ++ UInt8.ofNat (wide n) :: (bigEnd (wide n) n).take i.1)⟩)]⟩) (fun i => wide n - i.1) ⟨0, Nat.zero_le _⟩ [2] ?_ ?_
        · (refine Wk.ofC ?_; simp -dsimp (decide := true) (maxSteps := 1000000) (disch := first | omega | simp (decide := true) only [bdset_a, urows.flat, urows_length, brow_len, urow_len, brow_flat]) only [brun_a, ↓brun_b, envOf, reduceIte, Nat.reduceEqDiff, Nat.reduceAdd, Nat.reduceSub, Nat.reduceMul, Nat.reduceBEq, Nat.reduceLeDiff, Nat.reduceLT, beq_self_eq_true, cond_true, cond_false, Int.reduceToNat, tab.u3, tab.s3, tab.a3, tab.u5, tab.s5, tab.a5, tab.u35, tab.s35, tab.a35, tab.u36, tab.s36, tab.a36, tab.u43, tab.s43, tab.a43, brow_len, brow_cell, brows_at, urows_length, urows_at, urow_cell, urow_len, List.take_zero, bwk_a, frz1, eq_self, implies_true, rho, ↓reduceIte, forall_const])
          intro e he
          exact ent_brow_app rfl (fun i h => one_brow _ i h) he
        · rintro ⟨i, hi⟩
          refine Sem.go (k := 1000) ?_
          simp -dsimp (decide := true) (maxSteps := 1000000) (disch := first | omega | simp (decide := true) only [bdset_a, urows.flat, urows_length, brow_len, urow_len, brow_flat]) only [brun_a, ↓brun_b, envOf, reduceIte, Nat.reduceEqDiff, Nat.reduceAdd, Nat.reduceSub, Nat.reduceMul, Nat.reduceBEq, Nat.reduceLeDiff, Nat.reduceLT, beq_self_eq_true, cond_true, cond_false, Int.reduceToNat, tab.u3, tab.s3, tab.a3, tab.u5, tab.s5, tab.a5, tab.u35, tab.s35, tab.a35, tab.u36, tab.s36, tab.a36, tab.u43, tab.s43, tab.a43, brow_len, brow_cell, brows_at, urows_length, urows_at, urow_cell, urow_len]
          refine SCond.split (fun h2 => ?_) (fun h2 => ?_)
          · simp only [decide_eq_true_eq] at h2
            have hi' : i < wide n := by omega
            have hw1 : IntKind.i64.wrap ((wide n : Int) - 1) = ((wide n - 1 : Nat) : Int) := by rw [wrap_i64 _ (by omega)]; omega
            have hw2 : IntKind.i64.wrap (((wide n - 1 : Nat) : Int) - (i : Int)) = ((wide n - 1 - i : Nat) : Int) := by rw [wrap_i64 _ (by omega)]; omega
            have hw4 : IntKind.i64.wrap (8 * ((wide n - 1 - i : Nat) : Int)) = ((8 * (wide n - 1 - i) : Nat) : Int) := by rw [wrap_i64 _ (by omega)]; omega
            have hs := shr_u64 n (wide n - 1 - i) (by omega)
            have hw5 := wrap_u8_nat (n / 256 ^ (wide n - 1 - i))
            have hw6 : IntKind.i64.wrap ((i : Int) + 1) = ((i + 1 : Nat) : Int) := by rw [wrap_i64 _ (by omega)]; rfl
            have hbt := bigEnd_take (wide n) n i hi'
            simp -dsimp (decide := true) (maxSteps := 1000000) (disch := first | omega | simp (decide := true) only [bdset_a, urows.flat, urows_length, brow_len, urow_len, brow_flat]) only [brun_a, ↓brun_b, envOf, reduceIte, Nat.reduceEqDiff, Nat.reduceAdd, Nat.reduceSub, Nat.reduceMul, Nat.reduceBEq, Nat.reduceLeDiff, Nat.reduceLT, beq_self_eq_true, cond_true, cond_false, Int.reduceToNat, tab.u3, tab.s3, tab.a3, tab.u5, tab.s5, tab.a5, tab.u35, tab.s35, tab.a35, tab.u36, tab.s36, tab.a36, tab.u43, tab.s43, tab.a43, brow_len, brow_cell, brows_at, urows_length, urows_at, urow_cell, urow_len, hw1, hw2, hw4, hs, hw5, hw6, bs35, sapp1_sl el5]
            refine ⟨by omega, ⟨Nat.le_refl _, by omega⟩, ⟨i + 1, hi'⟩, [2], ?_, by show wide n - (i + 1) < wide n - i; omega⟩
            have hrow : acc ++ UInt8.ofNat (wide n) :: (bigEnd (wide n) n).take (i + 1) = (acc ++ UInt8.ofNat (wide n) :: (bigEnd (wide n) n).take i) ++ [byteAt (wide n) n i] := by rw [hbt]; simp
            (refine Wk.ofC ?_; simp -dsimp (decide := true) (maxSteps := 1000000) (disch := first | omega | simp (decide := true) only [bdset_a, urows.flat, urows_length, brow_len, urow_len, brow_flat]) only [brun_a, ↓brun_b, envOf, reduceIte, Nat.reduceEqDiff, Nat.reduceAdd, Nat.reduceSub, Nat.reduceMul, Nat.reduceBEq, Nat.reduceLeDiff, Nat.reduceLT, beq_self_eq_true, cond_true, cond_false, Int.reduceToNat, tab.u3, tab.s3, tab.a3, tab.u5, tab.s5, tab.a5, tab.u35, tab.s35, tab.a35, tab.u36, tab.s36, tab.a36, tab.u43, tab.s43, tab.a43, brow_len, brow_cell, brows_at, urows_length, urows_at, urow_cell, urow_len, hrow, bwk_a, frz1, eq_self, implies_true, rho, ↓reduceIte, forall_const])
            refine ⟨by omega, by omega, fun e he => ?_⟩
            exact ent_brow_app (by simp [bigEnd_length]; omega) (fun i h => one_brow _ i h) he
          · simp -dsimp (decide := true) (maxSteps := 1000000) (disch := first | omega | simp (decide := true) only [bdset_a, urows.flat, urows_length, brow_len, urow_len, brow_flat]) only [brun_a, ↓brun_b, envOf, reduceIte, Nat.reduceEqDiff, Nat.reduceAdd, Nat.reduceSub, Nat.reduceMul, Nat.reduceBEq, Nat.reduceLeDiff, Nat.reduceLT, beq_self_eq_true, cond_true, cond_false, Int.reduceToNat, tab.u3, tab.s3, tab.a3, tab.u5, tab.s5, tab.a5, tab.u35, tab.s35, tab.a35, tab.u36, tab.s36, tab.a36, tab.u43, tab.s43, tab.a43, brow_len, brow_cell, brows_at, urows_length, urows_at, urow_cell, urow_len, hw]
            simp only [decide_eq_false_iff_not] at h2
            obtain rfl : i = wide n := by omega
            refine ⟨⟨k + 1, hk'⟩, [0], ?_, by show ns.length - (k + 1) < ns.length - k; omega⟩
            have hl : (acc ++ form n).length = acc.length + 1 + wide n := by simp [form_length]; omega
            have hr : (bigEnd (wide n) n).take (wide n) = bigEnd (wide n) n := List.take_of_length_le (by simp [bigEnd_length])
            (refine Wk.ofC ?_; simp -dsimp (decide := true) (maxSteps := 1000000) (disch := first | omega | simp (decide := true) only [bdset_a, urows.flat, urows_length, brow_len, urow_len, brow_flat]) only [brun_a, ↓brun_b, envOf, reduceIte, Nat.reduceEqDiff, Nat.reduceAdd, Nat.reduceSub, Nat.reduceMul, Nat.reduceBEq, Nat.reduceLeDiff, Nat.reduceLT, beq_self_eq_true, cond_true, cond_false, Int.reduceToNat, tab.u3, tab.s3, tab.a3, tab.u5, tab.s5, tab.a5, tab.u35, tab.s35, tab.a35, tab.u36, tab.s36, tab.a36, tab.u43, tab.s43, tab.a43, brow_len, brow_cell, brows_at, urows_length, urows_at, urow_cell, urow_len, hft, hl, hr, bwk_a, frz1, eq_self, implies_true, rho, ↓reduceIte, forall_const])
            exact fun e he => EntL.self rfl
    · simp -dsimp (decide := true) (maxSteps := 1000000) (disch := first | omega | simp (decide := true) only [bdset_a, urows.flat, urows_length, brow_len, urow_len, brow_flat]) only [brun_a, ↓brun_b, envOf, reduceIte, Nat.reduceEqDiff, Nat.reduceAdd, Nat.reduceSub, Nat.reduceMul, Nat.reduceBEq, Nat.reduceLeDiff, Nat.reduceLT, beq_self_eq_true, cond_true, cond_false, Int.reduceToNat, tab.u3, tab.s3, tab.a3, tab.u5, tab.s5, tab.a5, tab.u35, tab.s35, tab.a35, tab.u36, tab.s36, tab.a36, tab.u43, tab.s43, tab.a43, brow_len, brow_cell, brows_at, urows_length, urows_at, urow_cell, urow_len]
      simp only [decide_eq_false_iff_not] at h
      obtain rfl : k = ns.length := by omega
      refine SQ.answer (rs := [.tmp 2]) rfl rfl ?_
      simp -dsimp (decide := true) (maxSteps := 1000000) (disch := first | omega | simp (decide := true) only [bdset_a, urows.flat, urows_length, brow_len, urow_len, brow_flat]) only [brun_a, ↓brun_b, envOf, reduceIte, Nat.reduceEqDiff, Nat.reduceAdd, Nat.reduceSub, Nat.reduceMul, Nat.reduceBEq, Nat.reduceLeDiff, Nat.reduceLT, beq_self_eq_true, cond_true, cond_false, Int.reduceToNat, tab.u3, tab.s3, tab.a3, tab.u5, tab.s5, tab.a5, tab.u35, tab.s35, tab.a35, tab.u36, tab.s36, tab.a36, tab.u43, tab.s43, tab.a43, List.take_length, bwk_a, frz1, eq_self, implies_true, rho, ↓reduceIte, forall_const]
      refine Ent_row rfl rfl (by simp [brows_length]) (by omega) fun i r hr => ent_brows hr
end Go.Proofs
