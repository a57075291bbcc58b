/- Contracts of functions that the laws reach, on abstract values, and what they need: no conditions but those that each theorem states. -/
import Derived.Test.YtheodenjjaoncaaRepP
import Derived.Test.YtheodenjjaoncaaTabC
import Derived.Test.YtheodenjjaoncaaSlP
import Derived.Test.YtheodenjjaoncaaSlQ
set_option linter.unusedVariables false
set_option linter.unusedSimpArgs false
set_option linter.defProp false
namespace Go.SL
open Go
set_option maxRecDepth 100000
def brow (l : List UInt8) (e : Nat) : List SV := [.v (.int .u8 ((l.getD e 0).toNat : Int))]
theorem brow_flat (l : List UInt8) (e : Nat) : SV.flatL (brow l e) = true := Eq.trans rfl rfl
theorem brows_get {l : List UInt8} {i : Nat} {r : List SV} (h : (brows l)[i]? = some r) : i < l.length ∧ r = brow l i := by
  unfold brows at h
  rw [List.getElem?_map] at h
  obtain ⟨x, hx, rfl⟩ := Option.map_eq_some_iff.1 h
  exact ⟨(List.getElem?_eq_some_iff.1 hx).1, by rw [brow, List.getD_eq_getElem?_getD, hx]; rfl⟩
theorem brows_at (l : List UInt8) (i : Nat) (h : i < l.length) : (brows l).getD i [] = brow l i := by
  rw [brows_getD l i h]; rfl
theorem ent_brow_app {fz : Nat → Option SB} {ρ : Nat → Nat} {l l' : List UInt8} {n : Nat} (hn : l.length = n) {g : Nat → List SV} (hg : ∀ i, i < l'.length → g i = brow l' i) {e : Nat} (he : e < n + l'.length) : EntL fz ρ (brow (l ++ l') e) (if e < n then brow l e else g (e - n)) := by
  have : (if e < n then brow l e else g (e - n)) = brow (l ++ l') e := by
    split
    · rename_i h
      simp [brow, List.getD_eq_getElem?_getD, List.getElem?_append_left (show e < l.length by omega)]
    · rename_i h
      rw [hg _ (by omega)]
      simp [brow, List.getD_eq_getElem?_getD, List.getElem?_append_right (show l.length ≤ e by omega), hn]
  rw [this]
  exact EntL.self rfl
theorem ent_brows {fz : Nat → Option SB} {ρ : Nat → Nat} {l : List UInt8} {i : Nat} {r : List SV} (h : (brows l)[i]? = some r) : EntL fz ρ r (brow l (0 + i)) := by
  obtain ⟨_, rfl⟩ := brows_get h
  rw [Nat.zero_add]
  exact EntL.self rfl
theorem brow_cell (l : List UInt8) (e : Nat) : cellAt (brow l e) 0 = .v (.int .u8 ((l.getD e 0).toNat : Int)) := Eq.trans rfl rfl
theorem brow_len (l : List UInt8) (e : Nat) : (brow l e).length = 1 := Eq.trans rfl rfl
def wide (n : Nat) : Nat := if n = 0 then 0 else n.log2 / 8 + 1
theorem pow2_8 (k : Nat) : 2 ^ (8 * k) = 256 ^ k := by rw [Nat.pow_mul]
theorem wide_gt (n k : Nat) : k < wide n ↔ 256 ^ k ≤ n := by
  unfold wide
  by_cases h : n = 0
  · subst h
    simp
  · rw [if_neg h, ← pow2_8, ← Nat.le_log2 h]
    omega
theorem wide_le8 (n : Nat) (h : n < 18446744073709551616) : wide n ≤ 8 := by
  rcases Nat.lt_or_ge 8 (wide n) with h1 | h1
  · rw [wide_gt] at h1
    simp at h1
    omega
  · exact h1
theorem wide_lt (n : Nat) : n < 256 ^ wide n := by
  rcases Nat.lt_or_ge n (256 ^ wide n) with h | h
  · exact h
  · exact absurd ((wide_gt n _).2 h) (Nat.lt_irrefl _)
def byteAt (w n i : Nat) : UInt8 := UInt8.ofNat (n / 256 ^ (w - 1 - i))
def bigEnd (w n : Nat) : List UInt8 := (List.range w).map (byteAt w n)
theorem bigEnd_length (w n : Nat) : (bigEnd w n).length = w := by simp [bigEnd]
theorem bigEnd_take (w n i : Nat) (h : i < w) : (bigEnd w n).take (i + 1) = (bigEnd w n).take i ++ [byteAt w n i] := by
  rw [List.take_add_one]
  simp [bigEnd, h]
def form (n : Nat) : List UInt8 := UInt8.ofNat (wide n) :: bigEnd (wide n) n
theorem form_length (n : Nat) : (form n).length = wide n + 1 := by simp [form, bigEnd_length]
def urow (n : Nat) : List SV := [.v (.int .u64 (n : Int))]
def urows (ns : List Nat) : List (List SV) := ns.map urow
theorem urows_length (ns : List Nat) : (urows ns).length = ns.length := by simp [urows]
theorem urows_at (ns : List Nat) (i : Nat) (h : i < ns.length) : (urows ns).getD i [] = urow (ns.getD i 0) := by simp [urows, List.getD_eq_getElem?_getD, h]
theorem urows.flat (ns : List Nat) : SV.flatR (urows ns) = true := flatR_map _ _ fun _ => rfl
theorem urow_cell (n : Nat) : cellAt (urow n) 0 = .v (.int .u64 (n : Int)) := Eq.trans rfl rfl
theorem urow_len (n : Nat) : (urow n).length = 1 := Eq.trans rfl rfl
theorem forms_take (ns : List Nat) (i : Nat) (h : i < ns.length) : (ns.take (i + 1)).flatMap form = (ns.take i).flatMap form ++ form (ns.getD i 0) := by
  rw [List.take_add_one, List.getElem?_eq_getElem h, Option.toList_some, List.flatMap_append, List.getD_eq_getElem?_getD, List.getElem?_eq_getElem h]
  simp
theorem forms_len (ns : List Nat) (h : ∀ n ∈ ns, n < 18446744073709551616) : (ns.flatMap form).length ≤ ns.length * 9 := by
  induction ns with
  | nil => simp
  | cons n ns ih =>
    have h1 := ih fun m hm => h m (by simp [hm])
    have h2 := wide_le8 n (h n (by simp))
    simp only [List.flatMap_cons, List.length_append, form_length, List.length_cons]
    omega
theorem fdiv_nat (n m : Nat) : (n : Int).fdiv ((m : Nat) : Int) = ((n / m : Nat) : Int) := by
  rw [Int.fdiv_eq_ediv_of_nonneg _ (Int.natCast_nonneg m)]
  rfl
theorem shr_u64 (n k : Nat) (hk : k ≤ 8) : (n : Int).fdiv (2 ^ (min (8 * k) IntKind.u64.bits)) = ((n / 256 ^ k : Nat) : Int) := by
  have h1 : min (8 * k) IntKind.u64.bits = 8 * k := by
    have : IntKind.u64.bits = 64 := rfl
    rw [this]
    omega
  rw [h1, ← fdiv_nat, ← pow2_8]
  congr 1
theorem wrap_u8_nat (n : Nat) : IntKind.u8.wrap (n : Int) = ((UInt8.ofNat n).toNat : Int) := by
  unfold IntKind.wrap
  simp [IntKind.bits, IntKind.signed]
end Go.SL
namespace Go.Proofs
open Go Go.SL
set_option maxRecDepth 100000
theorem el5 : ElTy Try.prog 5 1 1 := ⟨tab.s5, tab.b5, ⟨_, tab.z5, rfl⟩, by decide, by decide⟩
theorem bs35 (N : Nat) (x : Int) : sBuildSlice Try.prog N 35 1 [(0, .v (.int .u8 x))] = some ⟨.slc N 0 1, ⟨none, some (.row ⟨1, 1, true, 5, fun e => (([.v (.int .u8 x)] : List SV).drop (e * 1)).take 1⟩)⟩, True⟩ :=
  buildSlice_one tab.u35 tab.s5 tab.z5 (by decide) rfl (by decide) [.v (.int .u8 x)] _ rfl rfl rfl
theorem one_brow (c : UInt8) (i : Nat) (h : i < [c].length) : (([.v (.int .u8 (c.toNat : Int))] : List SV).drop i).take 1 = brow [c] i := by
  obtain rfl : i = 0 := by simp at h; exact h
  rfl
def wirpc0 :=
  (aI (aI (aI @beq_self_eq_true.{0} @brun_a) (aI @cond_false.{1} @cond_true.{1})) (aI (aI @tab.a5 @tab.s5) (aI @tab.u3 (aI @tab.u35 @tab.u5))))
def wirpb0 :=
  (aI (aI (aI wirpc0 (aI @brow_cell @brow_len)) (aI @brows_at (aI @tab.a36 @tab.s36))) (aI (aI @tab.u36 (aI @tab.u43 @urow_cell)) (aI @urow_len (aI @urows_at @urows_length))))
def wirpb1 :=
  (aI (aI (aI (aI wirpc0 @brow_cell) (aI @brow_len @brows_at)) (aI (aI @bwk_a @eq_self.{1}) (aI @forall_const.{1} @implies_true.{0}))) (aI (aI (aI @implies_true.{1} @tab.a36) (aI @tab.s36 @tab.u36)) (aI (aI @tab.u43 @urow_cell) (aI @urow_len (aI @urows_at @urows_length)))))
def wirpb2 :=
  (aI (aI (aI wirpc0 (aI @brow_cell @brow_len)) (aI @brows_at (aI @bs35 @tab.a36))) (aI (aI @tab.s36 (aI @tab.u36 @tab.u43)) (aI (aI @urow_cell @urow_len) (aI @urows_at @urows_length))))
def wirpb3 :=
  (aI (aI (aI wirpc0 @bwk_a) (aI @eq_self.{1} (aI @forall_const.{1} @implies_true.{0}))) (aI (aI @implies_true.{1} @tab.a36) (aI @tab.s36 (aI @tab.u36 @tab.u43))))
theorem putNum_calls (ns : List Nat) (hn : ∀ n ∈ ns, n < 18446744073709551616) (hb : ns.length * 9 ≤ 140737488355328) : Pure Try.prog 44 [.rsl 1 (urows ns)] (bsl (ns.flatMap form)) := by
  refine SCall.mk (fn := Try.f44) (by kernel_rfl) rfl (Nat.le_of_ble_eq_true (by kernel_rfl)) ?_
  refine goC ?_
  simp -dsimp +decide (disch := first | omega | simp +decide only [bdset_a, urows.flat, urows_length, brow_len, urow_len, brow_flat]) only [wirpb0, ↓brun_b, envOf, Nat.reduceBEq]
  refine Sem.ghost 3 1 5 rfl ?_
  refine Sem.loop (ι := {k : Nat // k ≤ ns.length}) (fun k => ⟨48, 0, [(8, .rsl 1 (urows ns)), (9, .v (.int .i64 (ns.length : Int))), (10, .v (.int .i64 (k.1 : Int))), (3, .slc 0 0 ((ns.take k.1).flatMap form).length)], [some (.row ⟨1, ((ns.take k.1).flatMap form).length, true, 5, brow ((ns.take k.1).flatMap form)⟩)]⟩) (fun k => ns.length - k.1) ⟨0, by omega⟩ [0] ?_ ?_
  · (refine Wk.ofC ?_; simp -dsimp +decide (disch := first | omega | simp +decide only [bdset_a, urows.flat, urows_length, brow_len, urow_len, brow_flat]) only [wirpb1, ↓brun_b, Nat.reduceBEq, List.take_zero, List.flatMap_nil])
  · rintro ⟨k, hk⟩
    refine goC ?_
    simp -dsimp +decide (disch := first | omega | simp +decide only [bdset_a, urows.flat, urows_length, brow_len, urow_len, brow_flat]) only [wirpb0, ↓brun_b, Nat.reduceBEq]
    refine SCond.split (fun h => ?_) (fun h => ?_)
    · simp only [decide_eq_true_eq] at h
      have hk' : k < ns.length := by omega
      have hw : IntKind.i64.wrap ((k : Int) + 1) = ((k + 1 : Nat) : Int) := by rw [wrap_i64 _ (by omega)]; rfl
      have hft := forms_take ns k hk'
      have hlen := forms_len (ns.take k) fun n h => hn n (List.mem_of_mem_take h)
      have hmem : ns.getD k 0 ∈ ns := by rw [List.getD_eq_getElem?_getD, List.getElem?_eq_getElem hk', Option.getD_some]; exact List.getElem_mem hk'
      have hnn := hn _ hmem
      simp -dsimp +decide (disch := first | omega | simp +decide only [bdset_a, urows.flat, urows_length, brow_len, urow_len, brow_flat]) only [wirpb0, ↓brun_b, Nat.reduceBEq, Nat.reduceLeDiff]
      generalize ns.getD k 0 = n at *
      generalize (ns.take k).flatMap form = acc at *
      refine ⟨⟨by omega, by omega⟩, ?_⟩
      have hw8 := wide_le8 n hnn
      have hacc : acc.length ≤ k * 9 := by rw [List.length_take, Nat.min_eq_left hk] at hlen; exact hlen
      have hkb : k * 9 + 9 ≤ ns.length * 9 := by have := Nat.mul_le_mul_right 9 hk'; omega
      refine Sem.cutW [_, _] ⟨48, 0, [(5, .v (.int .u64 (n : Int))), (6, .v (.int .i64 (wide n : Int))), (8, .rsl 1 (urows ns)), (9, .v (.int .i64 (ns.length : Int))), (10, .v (.int .i64 (k : Int))), (3, .slc 0 0 acc.length)], [some (.row ⟨1, acc.length, true, 5, brow acc⟩)]⟩ ?_ ?_
      · refine Sem.loop (ι := {j : Nat // j ≤ wide n}) (fun j => ⟨48, 0, [(5, .v (.int .u64 (n : Int))), (6, .v (.int .i64 (j.1 : Int))), (8, .rsl 1 (urows ns)), (9, .v (.int .i64 (ns.length : Int))), (10, .v (.int .i64 (k : Int))), (3, .slc 0 0 acc.length)], [some (.row ⟨1, acc.length, true, 5, brow acc⟩)]⟩) (fun j => wide n - j.1) ⟨0, Nat.zero_le _⟩ [0] ?_ ?_
        · (refine Wk.ofC ?_; simp -dsimp +decide (disch := first | omega | simp +decide only [bdset_a, urows.flat, urows_length, brow_len, urow_len, brow_flat]) only [wirpb1, ↓brun_b, Nat.reduceBEq])
        · rintro ⟨j, hj⟩
          refine goC ?_
          have hw1 : IntKind.i64.wrap (8 * (j : Int)) = ((8 * j : Nat) : Int) := by rw [wrap_i64 _ (by omega)]; omega
          have hw2 : IntKind.i64.wrap ((j : Int) + 1) = ((j + 1 : Nat) : Int) := by rw [wrap_i64 _ (by omega)]; rfl
          have hs := shr_u64 n j (by omega)
          have hgt := wide_gt n j
          simp -dsimp +decide (disch := first | omega | simp +decide only [bdset_a, urows.flat, urows_length, brow_len, urow_len, brow_flat]) only [wirpb0, ↓brun_b, Nat.reduceBEq]
          refine SIf.split (fun h1 => ?_) (fun h1 => ?_)
          · simp -dsimp +decide (disch := first | omega | simp +decide only [bdset_a, urows.flat, urows_length, brow_len, urow_len, brow_flat]) only [wirpb0, ↓brun_b, Nat.reduceBEq, h1, hw1, hs]
            refine ⟨by omega, ?_⟩
            refine SCond.split (fun h2 => ?_) (fun h2 => ?_)
            · simp -dsimp +decide (disch := first | omega | simp +decide only [bdset_a, urows.flat, urows_length, brow_len, urow_len, brow_flat]) only [wirpb0, ↓brun_b, Nat.reduceBEq, hw2]
              simp only [decide_eq_true_eq] at h2
              have h3 : j < wide n := by
                rw [hgt]
                have : 0 < n / 256 ^ j := by omega
                exact (Nat.div_pos_iff.1 this).2
              refine ⟨⟨j + 1, h3⟩, [0], ?_, by show wide n - (j + 1) < wide n - j; omega⟩
              (refine Wk.ofC ?_; simp -dsimp +decide (disch := first | omega | simp +decide only [bdset_a, urows.flat, urows_length, brow_len, urow_len, brow_flat]) only [wirpb1, ↓brun_b, Nat.reduceBEq])
            · simp -dsimp +decide (disch := first | omega | simp +decide only [bdset_a, urows.flat, urows_length, brow_len, urow_len, brow_flat]) only [wirpb0]
              simp only [decide_eq_false_iff_not] at h2
              have h3 : ¬ j < wide n := by
                rw [hgt]
                intro h4
                have : 0 < n / 256 ^ j := Nat.div_pos h4 (Nat.pow_pos (by omega))
                omega
              obtain rfl : j = wide n := by omega
              refine ⟨[0], ?_⟩
              (refine Wk.ofC ?_; simp -dsimp +decide (disch := first | omega | simp +decide only [bdset_a, urows.flat, urows_length, brow_len, urow_len, brow_flat]) only [wirpb1, ↓brun_b, Nat.reduceBEq])
          · simp -dsimp +decide (disch := first | omega | simp +decide only [bdset_a, urows.flat, urows_length, brow_len, urow_len, brow_flat]) only [wirpb0, ↓brun_b, Nat.reduceBEq, h1]
            simp only [decide_eq_false_iff_not] at h1
            obtain rfl : j = wide n := by omega
            refine ⟨[0], ?_⟩
            (refine Wk.ofC ?_; simp -dsimp +decide (disch := first | omega | simp +decide only [bdset_a, urows.flat, urows_length, brow_len, urow_len, brow_flat]) only [wirpb1, ↓brun_b, Nat.reduceBEq])
      · refine goC ?_
        have hw3 := wrap_u8_nat (wide n)
        simp -dsimp +decide (disch := first | omega | simp +decide only [bdset_a, urows.flat, urows_length, brow_len, urow_len, brow_flat]) only [wirpb2, ↓brun_b, Nat.reduceAdd, Nat.reduceBEq, Nat.reduceLeDiff, hw3, sapp1_sl el5]
        refine ⟨⟨Nat.le_refl _, by omega⟩, ?_⟩
        refine Sem.loop (ι := {i : Nat // i ≤ wide n}) (fun i => ⟨48, 0, [(5, .v (.int .u64 (n : Int))), (6, .v (.int .i64 (wide n : Int))), (30, .v (.int .i64 (wide n : Int))), (31, .v (.int .i64 (i.1 : Int))), (8, .rsl 1 (urows ns)), (9, .v (.int .i64 (ns.length : Int))), (10, .v (.int .i64 (k : Int))), (3, .slc 0 0 (acc.length + 1 + i.1))],
          [some (.row ⟨1, acc.length + 1 + i.1, true, 5, brow (acc ++ UInt8.ofNat (wide n) :: (bigEnd (wide n) n).take i.1)⟩)]⟩) (fun i => wide n - i.1) ⟨0, Nat.zero_le _⟩ [2] ?_ ?_
        · (refine Wk.ofC ?_; simp -dsimp +decide (disch := first | omega | simp +decide only [bdset_a, urows.flat, urows_length, brow_len, urow_len, brow_flat]) only [wirpb1, ↓brun_b, Nat.reduceAdd, Nat.reduceBEq, List.take_zero])
          intro e he
          exact ent_brow_app rfl (fun i h => one_brow _ i h) he
        · rintro ⟨i, hi⟩
          refine goC ?_
          simp -dsimp +decide (disch := first | omega | simp +decide only [bdset_a, urows.flat, urows_length, brow_len, urow_len, brow_flat]) only [wirpb0, ↓brun_b, Nat.reduceBEq]
          refine SCond.split (fun h2 => ?_) (fun h2 => ?_)
          · simp only [decide_eq_true_eq] at h2
            have hi' : i < wide n := by omega
            have hw1 : IntKind.i64.wrap ((wide n : Int) - 1) = ((wide n - 1 : Nat) : Int) := by rw [wrap_i64 _ (by omega)]; omega
            have hw2 : IntKind.i64.wrap (((wide n - 1 : Nat) : Int) - (i : Int)) = ((wide n - 1 - i : Nat) : Int) := by rw [wrap_i64 _ (by omega)]; omega
            have hw4 : IntKind.i64.wrap (8 * ((wide n - 1 - i : Nat) : Int)) = ((8 * (wide n - 1 - i) : Nat) : Int) := by rw [wrap_i64 _ (by omega)]; omega
            have hs := shr_u64 n (wide n - 1 - i) (by omega)
            have hw5 := wrap_u8_nat (n / 256 ^ (wide n - 1 - i))
            have hw6 : IntKind.i64.wrap ((i : Int) + 1) = ((i + 1 : Nat) : Int) := by rw [wrap_i64 _ (by omega)]; rfl
            have hbt := bigEnd_take (wide n) n i hi'
            simp -dsimp +decide (disch := first | omega | simp +decide only [bdset_a, urows.flat, urows_length, brow_len, urow_len, brow_flat]) only [wirpb2, ↓brun_b, Nat.reduceAdd, Nat.reduceBEq, Nat.reduceLeDiff, hw1, hw2, hw4, hs, hw5, hw6, sapp1_sl el5]
            refine ⟨by omega, ⟨Nat.le_refl _, by omega⟩, ⟨i + 1, hi'⟩, [2], ?_, by show wide n - (i + 1) < wide n - i; omega⟩
            have hrow : acc ++ UInt8.ofNat (wide n) :: (bigEnd (wide n) n).take (i + 1) = (acc ++ UInt8.ofNat (wide n) :: (bigEnd (wide n) n).take i) ++ [byteAt (wide n) n i] := by rw [hbt]; simp
            (refine Wk.ofC ?_; simp -dsimp +decide (disch := first | omega | simp +decide only [bdset_a, urows.flat, urows_length, brow_len, urow_len, brow_flat]) only [wirpb1, ↓brun_b, Nat.reduceAdd, Nat.reduceBEq, hrow])
            refine ⟨by omega, by omega, fun e he => ?_⟩
            exact ent_brow_app (by simp [bigEnd_length]; omega) (fun i h => one_brow _ i h) he
          · simp -dsimp +decide (disch := first | omega | simp +decide only [bdset_a, urows.flat, urows_length, brow_len, urow_len, brow_flat]) only [wirpb0, ↓brun_b, reduceIte, Nat.reduceBEq, hw]
            simp only [decide_eq_false_iff_not] at h2
            obtain rfl : i = wide n := by omega
            refine ⟨⟨k + 1, hk'⟩, [0], ?_, by show ns.length - (k + 1) < ns.length - k; omega⟩
            have hl : (acc ++ form n).length = acc.length + 1 + wide n := by simp [form_length]; omega
            have hr : (bigEnd (wide n) n).take (wide n) = bigEnd (wide n) n := List.take_of_length_le (by simp [bigEnd_length])
            (refine Wk.ofC ?_; simp -dsimp +decide (disch := first | omega | simp +decide only [bdset_a, urows.flat, urows_length, brow_len, urow_len, brow_flat]) only [wirpb1, ↓brun_b, Nat.reduceBEq, hft, hl, hr])
            exact fun e he => EntL.self rfl
    · simp -dsimp +decide (disch := first | omega | simp +decide only [bdset_a, urows.flat, urows_length, brow_len, urow_len, brow_flat]) only [wirpb0, ↓brun_b, reduceIte, Nat.reduceBEq]
      simp only [decide_eq_false_iff_not] at h
      obtain rfl : k = ns.length := by omega
      refine SQ.answer (rs := [.tmp 2]) rfl rfl ?_
      simp -dsimp +decide (disch := first | omega | simp +decide only [bdset_a, urows.flat, urows_length, brow_len, urow_len, brow_flat]) only [wirpb3, ↓brun_b, rho]
      refine Ent_row rfl rfl (by simp [brows_length]) (by omega) fun i r hr => ent_brows hr
end Go.Proofs
namespace Go.SL
open Go
def numB (l : List UInt8) : Nat := l.foldl (fun h x => h * 256 + x.toNat) 0
theorem numB_snoc (l : List UInt8) (x : UInt8) : numB (l ++ [x]) = numB l * 256 + x.toNat := by simp [numB]
theorem numB_lt (l : List UInt8) : numB l < 256 ^ l.length := by
  have : ∀ (n : Nat) (l : List UInt8), l.length = n → numB l < 256 ^ n := by
    intro n
    induction n with
    | zero => intro l hl; rw [List.length_eq_zero_iff] at hl; subst hl; simp [numB]
    | succ n ih =>
      intro l hl
      obtain ⟨x, r, hx⟩ : ∃ x r, l = r ++ [x] := by
        rcases List.eq_nil_or_concat l with h | ⟨r, x, h⟩
        · subst h; simp at hl
        · exact ⟨x, r, by simpa using h⟩
      subst hx
      have h1 := ih r (by simpa using hl)
      have h2 := x.toNat_lt
      rw [numB_snoc, Nat.pow_succ]
      omega
  exact this l.length l rfl
theorem numB_take (l : List UInt8) (k : Nat) (h : k < l.length) : numB (l.take (k + 1)) = numB (l.take k) * 256 + (l.getD k 0).toNat := by
  rw [List.take_add_one, List.getElem?_eq_getElem h, Option.toList_some, numB_snoc, List.getD_eq_getElem?_getD, List.getElem?_eq_getElem h]
  rfl
theorem pow256_le (a b : Nat) (h : a ≤ b) : 256 ^ a ≤ 256 ^ b := Nat.pow_le_pow_right (by omega) h
theorem or_u64 (h x : Nat) (hh : h < 256 ^ 7) (hx : x < 256) : ibits .or .u64 ((h * 256 : Nat) : Int) (x : Int) = ((h * 256 + x : Nat) : Int) := by
  have hb : IntKind.u64.bits = 64 := rfl
  have e1 : ∀ (m : Nat), m < 2 ^ 64 → (BitVec.ofInt IntKind.u64.bits (m : Int)).toNat = m := by
    intro m hm
    show (BitVec.ofInt 64 (m : Int)).toNat = m
    rw [BitVec.toNat_ofInt]
    omega
  unfold ibits
  simp only []
  rw [BitVec.toNat_or, e1 _ (by omega), e1 _ (by omega)]
  have e2 : h * 256 ||| x = h * 256 + x := by
    have := Nat.two_pow_add_eq_or_of_lt (i := 8) (b := x) (by omega) h
    rw [Nat.mul_comm h 256]
    exact this.symm
  rw [e2]
  exact wrap_u64 _ (by omega)
def getNum (l : List UInt8) (p : Int) : Nat × Int × Int :=
  if p < 0 ∨ (l.length : Int) < p then (0, 0, 1) else if p = l.length then (0, 0, 3) else
    let c := (l.getD p.toNat 0).toNat
    if 8 < c then (0, 0, 2) else if l.length < p.toNat + 1 + c then (0, 0, 3) else if 0 < c ∧ (l.getD (p.toNat + 1) 0).toNat = 0 then (0, 0, 2)
    else (numB ((l.drop (p.toNat + 1)).take c), p + 1 + c, 0)
def nres (r : Nat × Int × Int) : SV := .tup [.v (.int .u64 (r.1 : Int)), .v (.int .i64 r.2.1), .v (.int .i64 r.2.2)]
end Go.SL
namespace Go.Proofs
open Go Go.SL
set_option maxRecDepth 100000
def numOk (l : List UInt8) (p : Int) : Prop := 0 ≤ p ∧ p < l.length ∧ (l.getD p.toNat 0).toNat ≤ 8 ∧ p.toNat + 1 + (l.getD p.toNat 0).toNat ≤ l.length ∧ ¬ (0 < (l.getD p.toNat 0).toNat ∧ (l.getD (p.toNat + 1) 0).toNat = 0)
def wirpb4 :=
  (aI (aI (aI wirpc0 @brow_cell) (aI @brow_len (aI @brows_at @tab.a36))) (aI (aI @tab.s36 (aI @tab.u36 @urow_cell)) (aI @urow_len (aI @urows_at @urows_length))))
def wirpb5 :=
  (aI (aI (aI wirpc0 @bwk_a) (aI @eq_self.{1} @forall_const.{1})) (aI (aI @implies_true.{0} @implies_true.{1}) (aI @tab.a36 (aI @tab.s36 @tab.u36))))
def wirpb6 :=
  (aI (aI (aI (aI wirpc0 @brow_cell) (aI @brow_len @brows_at)) (aI (aI @bwk_a @eq_self.{1}) (aI @forall_const.{1} @implies_true.{0}))) (aI (aI (aI @implies_true.{1} @tab.a36) (aI @tab.s36 @tab.u36)) (aI (aI @urow_cell @urow_len) (aI @urows_at @urows_length))))
def wirpb7 :=
  (aI (aI (aI @List.length_cons.{0} @List.length_nil.{0}) (aI @Nat.zero_add @roL_in)) (aI (aI @roL_nil @roL_none) (aI @roL_row @ro_mk)))
def wirpb8 :=
  (aI (aI wirpc0 @tab.a36) (aI @tab.s36 @tab.u36))
theorem getNum_calls (l : List UInt8) (p : Int) (hl : l.length < 4611686018427387904) (hp : -9223372036854775808 ≤ p ∧ p < 9223372036854775808) : Pure Try.prog 42 [bsl l, .v (.int .i64 p)] (nres (getNum l p)) := by
  have hg : getNum l p = getNum l p := rfl
  conv at hg => rhs; unfold getNum
  refine SCall.mk (fn := Try.f42) (by kernel_rfl) rfl (Nat.le_of_ble_eq_true (by kernel_rfl)) ?_
  refine Sem.go (k := 3) ?_
  simp -dsimp +decide (disch := first | omega | simp +decide only [bdset_a, urows.flat, urows_length, brow_len, urow_len, brow_flat]) only [wirpb4, ↓brun_b, envOf]
  refine Sem.cutJ [_] (fun s' => numOk l p ∧ ∃ l', Wk l' s' ⟨85, 0, [(0, bsl l), (1, .v (.int .i64 p))], []⟩) ?_ ?_
  · refine goC ?_
    simp -dsimp +decide (disch := first | omega | simp +decide only [bdset_a, urows.flat, urows_length, brow_len, urow_len, brow_flat]) only [wirpb4, ↓brun_b, Nat.reduceBEq]
    refine SIf.split (fun h1 => ?_) (fun h1 => ?_)
    · simp -dsimp +decide (disch := first | omega | simp +decide only [bdset_a, urows.flat, urows_length, brow_len, urow_len, brow_flat]) only [wirpb4, ↓brun_b, Nat.reduceBEq, h1]
      simp only [decide_eq_true_eq] at h1
      rw [if_pos (.inl h1)] at hg
      rw [hg]
      refine SQ.answer (rs := [.tmp 4, .tmp 5, .tmp 6]) rfl rfl ?_
      simp -dsimp +decide (disch := first | omega | simp +decide only [bdset_a, urows.flat, urows_length, brow_len, urow_len, brow_flat]) only [wirpb5, ↓brun_b, Nat.reduceBEq, nres, rho]
    · simp -dsimp +decide (disch := first | omega | simp +decide only [bdset_a, urows.flat, urows_length, brow_len, urow_len, brow_flat]) only [wirpb4, ↓brun_b, Nat.reduceBEq, h1]
      simp only [decide_eq_false_iff_not] at h1
      refine SCond.split (fun h2 => ?_) (fun h2 => ?_)
      · simp -dsimp +decide (disch := first | omega | simp +decide only [bdset_a, urows.flat, urows_length, brow_len, urow_len, brow_flat]) only [wirpb4, ↓brun_b]
        simp only [decide_eq_true_eq] at h2
        rw [if_pos (.inr h2)] at hg
        rw [hg]
        refine SQ.answer (rs := [.tmp 4, .tmp 5, .tmp 6]) rfl rfl ?_
        simp -dsimp +decide (disch := first | omega | simp +decide only [bdset_a, urows.flat, urows_length, brow_len, urow_len, brow_flat]) only [wirpb5, ↓brun_b, Nat.reduceBEq, nres, rho]
      · simp only [decide_eq_false_iff_not] at h2
        rw [if_neg (by omega)] at hg
        simp -dsimp +decide (disch := first | omega | simp +decide only [bdset_a, urows.flat, urows_length, brow_len, urow_len, brow_flat]) only [wirpb4, ↓brun_b, Nat.reduceBEq]
        refine SCond.split (fun h3 => ?_) (fun h3 => ?_)
        · simp -dsimp +decide (disch := first | omega | simp +decide only [bdset_a, urows.flat, urows_length, brow_len, urow_len, brow_flat]) only [wirpb4, ↓brun_b]
          simp only [decide_eq_true_eq] at h3
          rw [if_pos h3] at hg
          rw [hg]
          refine SQ.answer (rs := [.tmp 4, .tmp 5, .tmp 6]) rfl rfl ?_
          simp -dsimp +decide (disch := first | omega | simp +decide only [bdset_a, urows.flat, urows_length, brow_len, urow_len, brow_flat]) only [wirpb5, ↓brun_b, Nat.reduceBEq, nres, rho]
        · simp only [decide_eq_false_iff_not] at h3
          rw [if_neg h3] at hg
          obtain ⟨a, rfl⟩ : ∃ a : Nat, p = a := ⟨p.toNat, by omega⟩
          have ha : a < l.length := by omega
          simp only [Int.toNat_natCast] at hg
          simp -dsimp +decide (disch := first | omega | simp +decide only [bdset_a, urows.flat, urows_length, brow_len, urow_len, brow_flat]) only [wirpb4, ↓brun_b, Nat.reduceBEq, Nat.reduceLeDiff]
          refine ⟨⟨by omega, by omega⟩, ?_⟩
          have hc := (l.getD a 0).toNat_lt
          have hok : numOk l a ↔ ((l.getD a 0).toNat ≤ 8 ∧ a + 1 + (l.getD a 0).toNat ≤ l.length ∧ ¬ (0 < (l.getD a 0).toNat ∧ (l.getD (a + 1) 0).toNat = 0)) := by
            unfold numOk
            rw [Int.toNat_natCast]
            constructor
            · rintro ⟨_, _, h⟩; exact h
            · intro h; exact ⟨by omega, by omega, h⟩
          generalize hcd : (l.getD a 0).toNat = c at *
          refine SCond.split (fun h4 => ?_) (fun h4 => ?_)
          · simp -dsimp +decide (disch := first | omega | simp +decide only [bdset_a, urows.flat, urows_length, brow_len, urow_len, brow_flat]) only [wirpb4, ↓brun_b]
            simp only [decide_eq_true_eq] at h4
            rw [if_pos (by omega)] at hg
            rw [hg]
            refine SQ.answer (rs := [.tmp 4, .tmp 5, .tmp 6]) rfl rfl ?_
            simp -dsimp +decide (disch := first | omega | simp +decide only [bdset_a, urows.flat, urows_length, brow_len, urow_len, brow_flat]) only [wirpb5, ↓brun_b, Nat.reduceBEq, nres, rho]
          · simp only [decide_eq_false_iff_not] at h4
            rw [if_neg (by omega)] at hg
            have hw1 : IntKind.i64.wrap (c : Int) = (c : Int) := wrap_i64 _ (by omega)
            have hw2 : IntKind.i64.wrap ((l.length : Int) - (a : Int)) = ((l.length - a : Nat) : Int) := by rw [wrap_i64 _ (by omega)]; omega
            have hw3 : IntKind.i64.wrap (((l.length - a : Nat) : Int) - 1) = ((l.length - a - 1 : Nat) : Int) := by rw [wrap_i64 _ (by omega)]; omega
            have hw4 : IntKind.i64.wrap ((a : Int) + 1) = ((a + 1 : Nat) : Int) := by rw [wrap_i64 _ (by omega)]; rfl
            simp -dsimp +decide (disch := first | omega | simp +decide only [bdset_a, urows.flat, urows_length, brow_len, urow_len, brow_flat]) only [wirpb4, ↓brun_b, Nat.reduceBEq, Nat.reduceLeDiff, hcd, hw1, hw2, hw3]
            refine ⟨⟨by omega, by omega⟩, ?_⟩
            refine SCond.split (fun h5 => ?_) (fun h5 => ?_)
            · simp -dsimp +decide (disch := first | omega | simp +decide only [bdset_a, urows.flat, urows_length, brow_len, urow_len, brow_flat]) only [wirpb4, ↓brun_b]
              simp only [decide_eq_true_eq] at h5
              rw [if_pos (by omega)] at hg
              rw [hg]
              refine SQ.answer (rs := [.tmp 4, .tmp 5, .tmp 6]) rfl rfl ?_
              simp -dsimp +decide (disch := first | omega | simp +decide only [bdset_a, urows.flat, urows_length, brow_len, urow_len, brow_flat]) only [wirpb5, ↓brun_b, Nat.reduceBEq, nres, rho]
            · simp only [decide_eq_false_iff_not] at h5
              rw [if_neg (by omega)] at hg
              simp -dsimp +decide (disch := first | omega | simp +decide only [bdset_a, urows.flat, urows_length, brow_len, urow_len, brow_flat]) only [wirpb4, ↓brun_b, Nat.reduceBEq, Nat.reduceLeDiff, hcd]
              refine ⟨⟨by omega, by omega⟩, ?_⟩
              refine SIf.split (fun h6 => ?_) (fun h6 => ?_)
              · have h6' : 0 < c := by simpa using h6
                simp -dsimp +decide (disch := first | omega | simp +decide only [bdset_a, urows.flat, urows_length, brow_len, urow_len, brow_flat]) only [wirpb4, ↓brun_b, Nat.reduceBEq, Nat.reduceLeDiff, h6, hw4]
                refine ⟨⟨by omega, by omega⟩, ?_⟩
                refine SCond.split (fun h7 => ?_) (fun h7 => ?_)
                · simp -dsimp +decide (disch := first | omega | simp +decide only [bdset_a, urows.flat, urows_length, brow_len, urow_len, brow_flat]) only [wirpb4, ↓brun_b]
                  simp only [decide_eq_true_eq] at h7
                  rw [if_pos ⟨h6', by omega⟩] at hg
                  rw [hg]
                  refine SQ.answer (rs := [.tmp 4, .tmp 5, .tmp 6]) rfl rfl ?_
                  simp -dsimp +decide (disch := first | omega | simp +decide only [bdset_a, urows.flat, urows_length, brow_len, urow_len, brow_flat]) only [wirpb5, ↓brun_b, Nat.reduceBEq, nres, rho]
                · simp -dsimp +decide (disch := first | omega | simp +decide only [bdset_a, urows.flat, urows_length, brow_len, urow_len, brow_flat]) only [wirpb4]
                  simp only [decide_eq_false_iff_not] at h7
                  refine ⟨hok.2 ⟨by omega, by omega, fun h => h7 (by omega)⟩, [], ?_⟩
                  (refine Wk.ofC ?_; simp -dsimp +decide (disch := first | omega | simp +decide only [bdset_a, urows.flat, urows_length, brow_len, urow_len, brow_flat]) only [wirpb6, ↓brun_b, Nat.reduceBEq, rho])
              · have h6' : ¬ 0 < c := by simpa using h6
                simp -dsimp +decide (disch := first | omega | simp +decide only [bdset_a, urows.flat, urows_length, brow_len, urow_len, brow_flat]) only [wirpb4, ↓brun_b, Nat.reduceBEq, h6]
                refine ⟨hok.2 ⟨by omega, by omega, fun h => h6' h.1⟩, [], ?_⟩
                (refine Wk.ofC ?_; simp -dsimp +decide (disch := first | omega | simp +decide only [bdset_a, urows.flat, urows_length, brow_len, urow_len, brow_flat]) only [wirpb6, ↓brun_b, Nat.reduceBEq, rho])
  · rintro s' ⟨⟨k1, k2, k3, k4, k5⟩, l', hw⟩
    refine Sem.weaken l' hw ?_
    obtain ⟨a, rfl⟩ : ∃ a : Nat, p = a := ⟨p.toNat, by omega⟩
    simp only [Int.toNat_natCast] at k3 k4 k5 hg
    rw [if_neg (by omega), if_neg (by omega), if_neg (by omega), if_neg (by omega), if_neg k5] at hg
    have hw4 : IntKind.i64.wrap ((a : Int) + 1) = ((a + 1 : Nat) : Int) := by rw [wrap_i64 _ (by omega)]; rfl
    generalize hcd : (l.getD a 0).toNat = c at *
    refine goC ?_
    simp -dsimp +decide (disch := first | omega | simp +decide only [bdset_a, urows.flat, urows_length, brow_len, urow_len, brow_flat]) only [wirpb4, ↓brun_b]
    refine Sem.draw' (by kernel_rfl) (.one 0 (.one 1 (.one 2 (.one 3 (.one 4 (.one 5 (.one 6 (.one 7 (.one 8 (.one 9 (.one 10 .done))))))))))) [] (by kernel_rfl) (fun G ff hG hf => ?_)
    simp +decide only [wirpb7] at hG ⊢
    simp -dsimp +decide (disch := first | omega | simp +decide only [bdset_a, urows.flat, urows_length, brow_len, urow_len, brow_flat]) only [wirpb4, ↓brun_b, Nat.reduceBEq, Nat.reduceLeDiff, hw4, hcd]
    have hm : ((l.drop (a + 1)).take c).length = c := by simp; omega
    refine ⟨⟨by omega, by omega⟩, ⟨by omega, by omega⟩, ⟨by omega, by simp; omega⟩, ?_⟩
    generalize (l.drop (a + 1)).take c = m at *
    refine hf _ (Sem.go (k := 1000) ?_)
    simp +decide only [back_mk, backL_nil]
    simp -dsimp +decide (disch := first | omega | simp +decide only [bdset_a, urows.flat, urows_length, brow_len, urow_len, brow_flat]) only [wirpb4, hm]
    refine Sem.loop (ι := {k : Nat // k ≤ c}) (fun k => ⟨85, 0, [(0, bsl l), (1, .v (.int .i64 (a : Int))), (64, bsl m), (65, .v (.int .i64 (c : Int))), (66, .v (.int .i64 (k.1 : Int))), (7, .v (.int .u64 (numB (m.take k.1) : Int)))], []⟩) (fun k => c - k.1) ⟨0, by omega⟩ [] ?_ ?_
    · (refine Wk.ofC ?_; simp -dsimp +decide (disch := first | omega | simp +decide only [bdset_a, urows.flat, urows_length, brow_len, urow_len, brow_flat]) only [wirpb6, ↓brun_b, Nat.reduceBEq, List.take_zero, numB, List.foldl_nil, rho])
    · rintro ⟨k, hk⟩
      refine goC ?_
      simp -dsimp +decide (disch := first | omega | simp +decide only [bdset_a, urows.flat, urows_length, brow_len, urow_len, brow_flat]) only [wirpb4, ↓brun_b, Nat.reduceBEq]
      refine SCond.split (fun h => ?_) (fun h => ?_)
      · simp only [decide_eq_true_eq] at h
        have hk' : k < m.length := by omega
        have hw5 : IntKind.i64.wrap ((k : Int) + 1) = ((k + 1 : Nat) : Int) := by rw [wrap_i64 _ (by omega)]; rfl
        have h1 := numB_lt (m.take k)
        have h2 := pow256_le (m.take k).length 7 (by simp; omega)
        have h3 := numB_take m k hk'
        have h4 := (m.getD k 0).toNat_lt
        have h5 : (256 : Nat) ^ 7 = 72057594037927936 := by decide
        have hsh : IntKind.u64.wrap ((numB (m.take k) : Int) * 2 ^ (min 8 IntKind.u64.bits)) = ((numB (m.take k) * 256 : Nat) : Int) := by
          have : min 8 IntKind.u64.bits = 8 := by decide
          rw [this, wrap_u64 _ (by omega)]
          omega
        have hwx : IntKind.u64.wrap ((m.getD k 0).toNat : Int) = ((m.getD k 0).toNat : Int) := wrap_u64 _ (by omega)
        have hor := or_u64 (numB (m.take k)) (m.getD k 0).toNat (by omega) (by omega)
        simp -dsimp +decide (disch := first | omega | simp +decide only [bdset_a, urows.flat, urows_length, brow_len, urow_len, brow_flat]) only [wirpb4, ↓brun_b, Nat.reduceBEq, Nat.reduceLeDiff, Int.reduceToNat, hm, hw5, hsh, hwx, hor]
        refine ⟨⟨by omega, by omega⟩, ⟨k + 1, by omega⟩, [], ?_, by show c - (k + 1) < c - k; omega⟩
        (refine Wk.ofC ?_; simp -dsimp +decide (disch := first | omega | simp +decide only [bdset_a, urows.flat, urows_length, brow_len, urow_len, brow_flat]) only [wirpb6, ↓brun_b, Nat.reduceBEq, h3, rho])
      · simp -dsimp +decide (disch := first | omega | simp +decide only [bdset_a, urows.flat, urows_length, brow_len, urow_len, brow_flat]) only [wirpb4, reduceIte]
        simp only [decide_eq_false_iff_not] at h
        obtain rfl : k = c := by omega
        refine Sem.draw' (by kernel_rfl) (.one 0 (.one 1 (.one 2 (.one 3 (.one 4 (.one 5 (.one 6 (.one 7 (.one 8 (.one 9 (.one 10 (.one 11 .done)))))))))))) [] (by kernel_rfl) (fun G ff hG hf => ?_)
        simp +decide only [wirpb7] at hG ⊢
        have hw6 : IntKind.i64.wrap (k : Int) = (k : Int) := wrap_i64 _ (by omega)
        have hw7 : IntKind.i64.wrap (((a + 1 : Nat) : Int) + (k : Int)) = (a : Int) + 1 + k := by rw [wrap_i64 _ (by omega)]; omega
        simp -dsimp +decide (disch := first | omega | simp +decide only [bdset_a, urows.flat, urows_length, brow_len, urow_len, brow_flat]) only [wirpb4, ↓brun_b, Nat.reduceBEq, Nat.reduceLeDiff, hw4, hcd, hw6, hw7]
        refine ⟨⟨by omega, by omega⟩, ?_⟩
        refine hf _ (Sem.go (k := 1000) ?_)
        simp +decide only [back_mk, backL_nil]
        simp -dsimp +decide (disch := first | omega | simp +decide only [bdset_a, urows.flat, urows_length, brow_len, urow_len, brow_flat]) only [wirpb8]
        have hmt : m.take k = m := List.take_of_length_le (by omega)
        rw [hg]
        refine SQ.answer (rs := [.tmp 4, .tmp 5, .tmp 6]) rfl rfl ?_
        simp -dsimp +decide (disch := first | omega | simp +decide only [bdset_a, urows.flat, urows_length, brow_len, urow_len, brow_flat]) only [wirpb5, ↓brun_b, Nat.reduceBEq, nres, hmt, rho]
end Go.Proofs
namespace Go.Proofs
open Go Go.SL
set_option maxRecDepth 100000
theorem nres.flat (r : Nat × Int × Int) : (nres r).flat = true := Eq.trans rfl rfl
def bcells (l : List UInt8) : List SV := l.map fun c => SV.v (.int .u8 (c.toNat : Int))
theorem bcells_at (l : List UInt8) (i : Nat) (h : i < l.length) : ((bcells l).drop (0 + i)).take 1 = brow l i := by
  have h1 : (l.drop i).take 1 = [l[i]] := by rw [List.drop_eq_getElem_cons h]; rfl
  rw [Nat.zero_add, bcells, ← List.map_drop, ← List.map_take, h1]
  simp [brow, h]
theorem ent_bcells {fz : Nat → Option SB} {ρ : Nat → Nat} {l : List UInt8} {i : Nat} {r : List SV} (h : (brows l)[i]? = some r) : EntL fz ρ r (((bcells l).drop (0 + i)).take 1) := by
  obtain ⟨h1, rfl⟩ := brows_get h
  rw [bcells_at l i h1]
  exact EntL.self rfl
def ucells (l : List Nat) : List SV := l.map fun c : Nat => SV.v (.int .u64 (c : Int))
theorem ent_ucells {fz : Nat → Option SB} {ρ : Nat → Nat} {l : List Nat} {i : Nat} {r : List SV} (h : (urows l)[i]? = some r) : EntL fz ρ r (((ucells l).drop (0 + i)).take 1) := by
  unfold urows at h
  rw [List.getElem?_map] at h
  obtain ⟨x, hx, rfl⟩ := Option.map_eq_some_iff.1 h
  have hi := (List.getElem?_eq_some_iff.1 hx).1
  have e : l[i] = x := (List.getElem?_eq_some_iff.1 hx).2
  have h1 : (l.drop i).take 1 = [l[i]] := by rw [List.drop_eq_getElem_cons hi]; rfl
  rw [Nat.zero_add, ucells, ← List.map_drop, ← List.map_take, h1, e]
  exact EntL.self rfl
theorem bs43_1 (N : Nat) (a : Nat) : sBuildSlice Try.prog N 43 1 [(0, .v (.int .u64 (a : Int)))] = some ⟨.slc N 0 1, ⟨none, some (.row ⟨1, 1, true, 36, fun e => ((ucells [a]).drop (e * 1)).take 1⟩)⟩, True⟩ := by kernel_rfl
end Go.Proofs
namespace Go.SL
open Go
theorem numB_foldl (l : List UInt8) : ∀ (h : Nat), l.foldl (fun h x => h * 256 + x.toNat) h = h * 256 ^ l.length + numB l := by
  induction l with
  | nil => intro h; simp [numB]
  | cons x l ih =>
    intro h
    have h1 := ih (h * 256 + x.toNat)
    have h2 := ih x.toNat
    simp only [List.foldl_cons, numB, List.length_cons, Nat.zero_mul, Nat.zero_add] at h1 h2 ⊢
    rw [h1, h2, Nat.pow_succ, Nat.add_mul, Nat.mul_assoc, Nat.mul_comm 256]
    omega
theorem numB_cons (x : UInt8) (l : List UInt8) : numB (x :: l) = x.toNat * 256 ^ l.length + numB l := by
  have := numB_foldl l x.toNat
  simpa [numB] using this
theorem wide_numB (l : List UInt8) (h : 0 < l.length → (l.getD 0 0).toNat ≠ 0) : wide (numB l) = l.length := by
  cases l with
  | nil => rfl
  | cons x l =>
    have hx : x.toNat ≠ 0 := by simpa using h (by simp)
    have h1 := numB_lt l
    have h2 := x.toNat_lt
    have h3 : 256 ^ l.length ≤ numB (x :: l) := by
      rw [numB_cons]
      have : 1 * 256 ^ l.length ≤ x.toNat * 256 ^ l.length := Nat.mul_le_mul_right _ (by omega)
      omega
    have h4 := numB_lt (x :: l)
    have h5 := (wide_gt (numB (x :: l)) l.length).2 h3
    have h6 : ¬ (x :: l).length < wide (numB (x :: l)) := fun h => by
      rw [wide_gt] at h
      omega
    simp only [List.length_cons] at h6 ⊢
    omega
theorem byteAt_numB : ∀ (l : List UInt8) (i : Nat), i < l.length → byteAt l.length (numB l) i = l.getD i 0
  | [], i, h => by simp at h
  | x :: l, i, h => by
    have h1 := numB_lt l
    unfold byteAt
    rw [numB_cons]
    cases i with
    | zero =>
      have h2 : (x.toNat * 256 ^ l.length + numB l) / 256 ^ ((x :: l).length - 1 - 0) = x.toNat := by
        simp only [List.length_cons, Nat.add_sub_cancel, Nat.sub_zero]
        rw [Nat.mul_comm, Nat.mul_add_div (Nat.pow_pos (by omega)), Nat.div_eq_of_lt h1, Nat.add_zero]
      rw [h2]
      simp
    | succ i =>
      have ih := byteAt_numB l i (by simpa using h)
      unfold byteAt at ih
      have hi : i < l.length := by simpa using h
      have e : (x :: l).length - 1 - (i + 1) = l.length - 1 - i := by simp only [List.length_cons]; omega
      rw [e]
      have h3 : l.length = (l.length - 1 - i) + (i + 1) := by omega
      have h4 : x.toNat * 256 ^ l.length = 256 ^ (l.length - 1 - i) * (x.toNat * 256 ^ (i + 1)) := by
        conv => lhs; rw [h3, Nat.pow_add]
        rw [Nat.mul_left_comm]
      rw [h4, Nat.mul_add_div (Nat.pow_pos (by omega))]
      have h5 : UInt8.ofNat (x.toNat * 256 ^ (i + 1) + numB l / 256 ^ (l.length - 1 - i)) = UInt8.ofNat (numB l / 256 ^ (l.length - 1 - i)) := by
        apply UInt8.toNat_inj.1
        simp only [UInt8.toNat_ofNat']
        rw [Nat.pow_succ, ← Nat.mul_assoc, Nat.mul_add_mod_self_right]
      rw [h5, ih]
      simp
theorem bigEnd_numB (l : List UInt8) : bigEnd l.length (numB l) = l := by
  refine List.ext_getElem (by simp [bigEnd]) fun i h1 h2 => ?_
  have := byteAt_numB l i h2
  simp only [bigEnd, List.getElem_map, List.getElem_range]
  rw [this]
  simp [h2]
theorem form_numB (l : List UInt8) (h : 0 < l.length → (l.getD 0 0).toNat ≠ 0) : form (numB l) = UInt8.ofNat l.length :: l := by
  rw [form, wide_numB l h, bigEnd_numB]
theorem numB_bigEnd (w n : Nat) (h : n < 256 ^ w) : numB (bigEnd w n) = n := by
  have : ∀ (k : Nat), k ≤ w → numB ((bigEnd w n).take k) = n / 256 ^ (w - k) := by
    intro k
    induction k with
    | zero => intro _; simp [numB, Nat.div_eq_of_lt h]
    | succ k ih =>
      intro hk
      rw [bigEnd_take w n k (by omega), numB_snoc, ih (by omega)]
      unfold byteAt
      simp only [UInt8.toNat_ofNat']
      have e : w - k = (w - (k + 1)) + 1 := by omega
      have e2 : w - 1 - k = w - (k + 1) := by omega
      rw [e2, e, Nat.pow_succ, ← Nat.div_div_eq_div_mul]
      omega
  have h1 := this w (Nat.le_refl _)
  rw [List.take_of_length_le (by simp [bigEnd_length])] at h1
  simpa using h1
theorem getNum_zero (l : List UInt8) : ((getNum l 0).2.2 ≠ 0 → (getNum l 0).1 = 0 ∧ (getNum l 0).2.1 = 0) ∧ ((getNum l 0).2.2 = 0 → (getNum l 0).1 < 18446744073709551616 ∧ 0 ≤ (getNum l 0).2.1 ∧ (getNum l 0).2.1 ≤ l.length ∧ form (getNum l 0).1 = l.take (getNum l 0).2.1.toNat) := by
  unfold getNum
  split
  · exact ⟨fun _ => ⟨rfl, rfl⟩, fun h => by simp at h⟩
  · split
    · exact ⟨fun _ => ⟨rfl, rfl⟩, fun h => by simp at h⟩
    · simp only [Int.toNat_zero, Nat.zero_add]
      have hc := (l.getD 0 0).toNat_lt
      generalize hcd : (l.getD 0 0).toNat = c at *
      split
      · exact ⟨fun _ => ⟨rfl, rfl⟩, fun h => by simp at h⟩
      · split
        · exact ⟨fun _ => ⟨rfl, rfl⟩, fun h => by simp at h⟩
        · split
          · exact ⟨fun _ => ⟨rfl, rfl⟩, fun h => by simp at h⟩
          · rename_i h1 h2 h3 h4 h5
            refine ⟨fun h => absurd rfl h, fun _ => ?_⟩
            have hl : ((l.drop 1).take c).length = c := by simp; omega
            have hlt := numB_lt ((l.drop 1).take c)
            have hp := pow256_le c 8 (by omega)
            have h8 : (256 : Nat) ^ 8 = 18446744073709551616 := by decide
            rw [hl] at hlt
            refine ⟨by simp only []; omega, by simp only []; omega, by simp only []; omega, ?_⟩
            simp only []
            rw [form_numB, hl]
            · have e : (0 + 1 + (c : Int)).toNat = c + 1 := by omega
              rw [e]
              cases l with
              | nil => simp at h4
              | cons x l =>
                have hx : x.toNat = c := by simpa using hcd
                simp only [List.take_succ_cons, List.drop_succ_cons, List.drop_zero, List.cons.injEq, and_true]
                apply UInt8.toNat_inj.1
                rw [hx]
                simp
                omega
            · intro hpos
              rw [hl] at hpos
              intro h0
              refine h5 ⟨hpos, ?_⟩
              rw [← h0]
              have : 0 < c := hpos
              simp [List.getD_eq_getElem?_getD, this]
end Go.SL
namespace Go.SL
open Go
theorem cls_bytes_aux {P : Program} {n : Nat} (hu : P.underlying 5 = some (.int .u8)) : ∀ (rows : List (List SV)), (∀ r ∈ rows, ClsC P (n + 1) 5 r) → ∃ l : List UInt8, rows = brows l
  | [], _ => ⟨[], rfl⟩
  | r :: rows, h => by
    obtain ⟨l, rfl⟩ := cls_bytes_aux hu rows fun r hr => h r (by simp [hr])
    have h3 := h r (by simp)
    unfold ClsC at h3
    rw [hu] at h3
    obtain ⟨x, rfl, hw⟩ := h3
    have h4 : IntKind.u8.min = 0 := rfl
    have h5 : IntKind.u8.max = 255 := rfl
    simp only [Lit.wf, Bool.and_eq_true, decide_eq_true_eq, h4, h5] at hw
    refine ⟨UInt8.ofNat x.toNat :: l, ?_⟩
    simp only [brows, List.map_cons, List.cons.injEq, and_true, SV.v.injEq, Value.int.injEq, true_and, UInt8.toNat_ofNat']
    omega
end Go.SL
namespace Go.Proofs
open Go Go.SL
set_option maxRecDepth 100000
theorem cls_bytes {n : Nat} {l : List SV} (h : ClsC Try.prog (n + 2) 35 l) : ∃ b : List UInt8, l = [bsl b] ∧ b.length ≤ reachBytes := by
  unfold ClsC at h
  rw [tab.u35] at h
  obtain ⟨rows, rfl, hb, hp⟩ := h
  obtain ⟨b, rfl⟩ := cls_bytes_aux tab.u5 rows hp
  have hc : Try.prog.cellsOf 5 = 1 := by kernel_rfl
  have hby : Try.prog.bytesOf 5 = 1 := by kernel_rfl
  rw [hby, Nat.mul_one, brows_length] at hb
  exact ⟨b, by rw [hc], hb⟩
end Go.Proofs
namespace Go.SL
open Go
theorem brows_nil : brows [] = [] := rfl
theorem getNum_ok (l : List UInt8) (p : Int) (h : (getNum l p).2.2 = 0) : ∃ k : Nat, (getNum l p).2.1 = k ∧ k ≤ l.length ∧ (getNum l p).1 < 18446744073709551616 ∧ 0 ≤ p ∧ p < k := by
  unfold getNum at *
  split
  · rename_i h1; rw [if_pos h1] at h; simp at h
  · rename_i h1
    rw [if_neg h1] at h
    split
    · rename_i h2; rw [if_pos h2] at h; simp at h
    · rename_i h2
      rw [if_neg h2] at h
      simp only at h ⊢
      split
      · rename_i h3; rw [if_pos h3] at h; simp at h
      · rename_i h3
        rw [if_neg h3] at h
        split
        · rename_i h4; rw [if_pos h4] at h; simp at h
        · rename_i h4
          rw [if_neg h4] at h
          split
          · rename_i h5; rw [if_pos h5] at h; simp at h
          · have hlt := numB_lt ((l.drop (p.toNat + 1)).take (l.getD p.toNat 0).toNat)
            have hl : ((l.drop (p.toNat + 1)).take (l.getD p.toNat 0).toNat).length = (l.getD p.toNat 0).toNat := by rw [List.length_take, List.length_drop]; omega
            have hp := pow256_le (l.getD p.toNat 0).toNat 8 (by omega)
            have h8 : (256 : Nat) ^ 8 = 18446744073709551616 := by decide
            rw [hl] at hlt
            refine ⟨p.toNat + 1 + (l.getD p.toNat 0).toNat, ?_, ?_, ?_, ?_, ?_⟩ <;> (try dsimp only) <;> omega
def getText (l : List UInt8) (p most : Int) : List UInt8 × Int × Int :=
  if (getNum l p).2.2 ≠ 0 then ([], 0, (getNum l p).2.2) else if most < 0 ∨ most < (getNum l p).1 then ([], 0, 4)
  else if (l.length : Int) - (getNum l p).2.1 < (getNum l p).1 then ([], 0, 3)
  else ((l.drop (getNum l p).2.1.toNat).take (getNum l p).1, (getNum l p).2.1 + (getNum l p).1, 0)
def tres (r : List UInt8 × Int × Int) : SV := .tup [bsl r.1, .v (.int .i64 r.2.1), .v (.int .i64 r.2.2)]
theorem tres.flat (r : List UInt8 × Int × Int) : (tres r).flat = true := by
  simp only [tres, flat_tup, flatL_cons, flatL_nil, flat_rsl, flat_v, flatR_brows, Bool.and_self]
end Go.SL
namespace Go.Proofs
open Go Go.SL
set_option maxRecDepth 100000
theorem bs35_0 (N : Nat) : sBuildSlice Try.prog N 35 0 [] = some ⟨.slc N 0 0, ⟨none, some (.row ⟨1, 0, true, 5, fun e => (([] : List SV).drop (e * 1)).take 1⟩)⟩, True⟩ := by kernel_rfl
end Go.Proofs
namespace Go.SL
open Go
theorem getD_drop (l : List UInt8) (a i : Nat) : (l.drop a).getD i 0 = l.getD (a + i) 0 := by
  simp [List.getD_eq_getElem?_getD, List.getElem?_drop]
end Go.SL
namespace Go.Proofs
open Go Go.SL
set_option maxRecDepth 100000
end Go.Proofs
namespace Go.Proofs
open Go Go.SL
set_option maxRecDepth 100000
theorem bcells_length (l : List UInt8) : (bcells l).length = l.length := List.length_map _
theorem bcells_one (l : List UInt8) : (bcells l).all SV.one = true := by simp [bcells, SV.one, Value.oneCell']
theorem bcells_part (l : List UInt8) (h : l.length = 16) : spart true (bcells l) 0 16 = .agg (bcells l) := by simp [spart, List.take_of_length_le, bcells_length, h]
theorem bcells_splice (a b : List UInt8) (ha : a.length = 16) (hb : b.length = 16) : splice (bcells a) 0 (bcells b) = bcells b := by
  simp [splice, bcells_length, hb, List.drop_of_length_le, ha]
theorem bcells_flat (l : List UInt8) : SV.flatL (bcells l) = true := by
  induction l with
  | nil => rfl
  | cons x l ih => exact ih
theorem brows_cells (l : List UInt8) : (brows l).map (fun r => cellAt r 0) = bcells l := by
  simp [brows, bcells, cellAt]
def z16 : List UInt8 := List.replicate 16 0
theorem z16_length : z16.length = 16 := Eq.trans rfl rfl
theorem alloc23 (N : Nat) : sAlloc Try.prog N 23 = some ⟨.ptr N 0 0, ⟨none, some (.row ⟨16, 1, true, 23, fun _ => bcells z16⟩)⟩, True⟩ := sAlloc_eq N 23 _ tab.z23 rfl
def getID (l : List UInt8) (p : Int) : List UInt8 × Int × Int :=
  if p < 0 ∨ (l.length : Int) < p then (z16, 0, 1) else if (l.length : Int) - p < 16 then (z16, 0, 3)
  else ((l.drop p.toNat).take 16, p + 16, 0)
def ires (r : List UInt8 × Int × Int) : SV := .tup [.agg (bcells r.1), .v (.int .i64 r.2.1), .v (.int .i64 r.2.2)]
def wirpb9 :=
  (aI (aI (aI @bcells_flat (aI @bcells_length @bcells_one)) (aI @bdset_a (aI @brow_flat @brow_len))) (aI (aI @nres.flat (aI @tres.flat @urow_len)) (aI @urows.flat (aI @urows_length @z16_length))))
def wirpc1 :=
  (aI (aI @alloc23 (aI @bcells_part @bcells_splice)) (aI @tab.a23 (aI @tab.s23 @tab.u23)))
def wirpb10 :=
  (aI (aI (aI wirpc1 wirpc0) (aI @bcells_length (aI @brow_cell @brow_len))) (aI (aI @brows_at (aI @urow_cell @urow_len)) (aI @urows_at (aI @urows_length @z16_length))))
def wirpb11 :=
  (aI (aI (aI (aI wirpc1 wirpc0) (aI @bcells_length @brow_cell)) (aI (aI @brow_len @brows_at) (aI @bwk_a @eq_self.{1}))) (aI (aI (aI @forall_const.{1} @implies_true.{0}) (aI @implies_true.{1} @urow_cell)) (aI (aI @urow_len @urows_at) (aI @urows_length @z16_length))))
def wirpb12 :=
  (aI (aI (aI wirpc1 (aI wirpc0 @bcells_length)) (aI @brow_cell (aI @brow_len @brows_at))) (aI (aI @brows_cells (aI @urow_cell @urow_len)) (aI @urows_at (aI @urows_length @z16_length))))
theorem getID_calls (l : List UInt8) (p : Int) (hl : l.length < 4611686018427387904) (hp : -9223372036854775808 ≤ p ∧ p < 9223372036854775808) : Pure Try.prog 69 [bsl l, .v (.int .i64 p)] (ires (getID l p)) := by
  have hg : getID l p = getID l p := rfl
  conv at hg => rhs; unfold getID
  refine SCall.mk (fn := Try.f69) (by kernel_rfl) rfl (Nat.le_of_ble_eq_true (by kernel_rfl)) ?_
  refine goC ?_
  simp -dsimp +decide (disch := first | omega | simp +decide only [wirpb9]) only [wirpb10, ↓brun_b, envOf, Nat.reduceAdd, Nat.reduceBEq]
  refine SIf.split (fun h1 => ?_) (fun h1 => ?_)
  · simp -dsimp +decide (disch := first | omega | simp +decide only [wirpb9]) only [wirpb10, ↓brun_b, Nat.reduceAdd, Nat.reduceBEq, h1]
    simp only [decide_eq_true_eq] at h1
    rw [if_pos (.inl h1)] at hg
    rw [hg]
    refine SQ.answer (rs := [.cell 4 23, .tmp 5, .tmp 6]) rfl rfl ?_
    simp -dsimp +decide (disch := first | omega | simp +decide only [wirpb9]) only [wirpb11, ↓brun_b, Nat.reduceAdd, Nat.reduceBEq, ires, rho]
  · simp -dsimp +decide (disch := first | omega | simp +decide only [wirpb9]) only [wirpb10, ↓brun_b, Nat.reduceAdd, Nat.reduceBEq, h1]
    simp only [decide_eq_false_iff_not] at h1
    refine SCond.split (fun h2 => ?_) (fun h2 => ?_)
    · simp only [decide_eq_true_eq] at h2
      rw [if_pos (.inr (by omega))] at hg
      simp -dsimp +decide (disch := first | omega | simp +decide only [wirpb9]) only [wirpb10, ↓brun_b, Nat.reduceAdd, Nat.reduceBEq]
      rw [hg]
      refine SQ.answer (rs := [.cell 4 23, .tmp 5, .tmp 6]) rfl rfl ?_
      simp -dsimp +decide (disch := first | omega | simp +decide only [wirpb9]) only [wirpb11, ↓brun_b, Nat.reduceAdd, Nat.reduceBEq, ires, rho]
    · simp only [decide_eq_false_iff_not] at h2
      rw [if_neg (by omega)] at hg
      obtain ⟨a, rfl⟩ : ∃ a : Nat, p = a := ⟨p.toNat, by omega⟩
      simp only [Int.toNat_natCast] at hg
      have hw1 : IntKind.i64.wrap ((l.length : Int) - (a : Int)) = ((l.length - a : Nat) : Int) := by rw [wrap_i64 _ (by omega)]; omega
      simp -dsimp +decide (disch := first | omega | simp +decide only [wirpb9]) only [wirpb10, ↓brun_b, Nat.reduceAdd, Nat.reduceBEq, hw1]
      refine SCond.split (fun h3 => ?_) (fun h3 => ?_)
      · simp only [decide_eq_true_eq] at h3
        rw [if_pos (by omega)] at hg
        simp -dsimp +decide (disch := first | omega | simp +decide only [wirpb9]) only [wirpb10, ↓brun_b, Nat.reduceAdd, Nat.reduceBEq]
        rw [hg]
        refine SQ.answer (rs := [.cell 4 23, .tmp 5, .tmp 6]) rfl rfl ?_
        simp -dsimp +decide (disch := first | omega | simp +decide only [wirpb9]) only [wirpb11, ↓brun_b, Nat.reduceAdd, Nat.reduceBEq, ires, rho]
      · simp only [decide_eq_false_iff_not] at h3
        rw [if_neg (by omega)] at hg
        have hdl : (l.drop a).length = l.length - a := List.length_drop
        simp -dsimp +decide (disch := first | omega | simp +decide only [wirpb9]) only [wirpb10]
        refine Sem.draw' (by kernel_rfl) (.one 0 (.one 1 (.one 2 (.one 3 (.alt 4 .done .non))))) [1] (by kernel_rfl) (fun G ff hG hf => ?_)
        simp +decide only [wirpb7, Nat.reduceAdd] at hG ⊢
        have hmin : (l.drop a).length.min 16 = 16 := Nat.min_eq_right (by omega)
        have hlt : ((l.drop a).take 16).length = 16 := by rw [List.length_take]; omega
        simp -dsimp +decide (disch := first | omega | simp +decide only [wirpb9]) only [wirpb12, ↓brun_b, Nat.reduceAdd, Nat.reduceBEq, hmin]
        refine And.intro (by omega) ?_
        refine hf _ (Sem.go (k := 1000) ?_)
        simp +decide only [back_mk, backL_in, backL_row, backL_nil, Nat.zero_add, Nat.reduceAdd]
        have hw2 : IntKind.i64.wrap ((a : Int) + 16) = (a : Int) + 16 := wrap_i64 _ (by omega)
        have hbl : (bcells ((l.drop a).take 16)).length = 16 := by rw [bcells_length, hlt]
        simp -dsimp +decide (disch := first | omega | simp +decide only [wirpb9]) only [wirpb10, ↓brun_b, Nat.reduceAdd, Nat.reduceBEq, hw2]
        rw [hg]
        refine SQ.answer (rs := [.cell 4 23, .tmp 5, .tmp 6]) rfl rfl ?_
        simp -dsimp +decide (disch := first | omega | simp +decide only [wirpb9]) only [wirpb11, ↓brun_b, Nat.reduceAdd, Nat.reduceBEq, ires, rho]
end Go.Proofs
namespace Go.Proofs
open Go Go.SL
set_option maxRecDepth 100000
theorem getID_len (l : List UInt8) (p : Int) : (getID l p).1.length = 16 := by
  unfold getID
  split
  · rfl
  · split
    · rfl
    · rw [List.length_take, List.length_drop]
      omega
theorem ires.flat (r : List UInt8 × Int × Int) : (ires r).flat = true := by
  simp only [ires, flat_tup, flatL_cons, flatL_nil, flat_agg, bcells_flat, flat_v, Bool.and_self]
end Go.Proofs
