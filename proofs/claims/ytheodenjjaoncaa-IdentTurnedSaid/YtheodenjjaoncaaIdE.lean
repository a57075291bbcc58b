/- Texts of identities: ident.digit, ident.Parse. -/
import Derived.Test.YtheodenjjaoncaaIdD
import Derived.Laws.RangeString
set_option linter.unusedVariables false
set_option linter.unusedSimpArgs false
namespace Go.SL
open Go
theorem wrap_i32 (x : Int) (h : -2147483648 ≤ x ∧ x < 2147483648) : IntKind.i32.wrap x = x := by
  unfold IntKind.wrap
  simp [IntKind.bits, IntKind.signed]
  omega
def srange1 (N : Nat) (s : ByteArray) (d : Option TypeDesc) : Option SO :=
  match d with
  | some .string => some ⟨.ptr N 0 0, { new := some (.it s 0) }, True⟩
  | _ => none
theorem srange1_str (N : Nat) (s : ByteArray) : srange1 N s (some .string) = some ⟨.ptr N 0 0, ⟨none, some (.it s 0)⟩, True⟩ := Eq.trans rfl rfl
theorem sRange_str (P : Program) (N : Nat) (t : TypeId) (s : ByteArray) : sRange P N t (.v (.string s)) = srange1 N s (P.underlying t) := by
  unfold sRange srange1
  rfl
def snext1 (b : Nat) (K : Option SK) : Option SO :=
  match K with
  | some (.it s pos) => some ⟨.tup [.v (.bool (decide (pos < s.size))), if pos < s.size then .v (.int .i64 pos) else .any, if pos < s.size then .v (.int .i32 (Utf8.decode s pos).1) else .any],
        { set := some (b, some (.it s (if pos < s.size then pos + (Utf8.decode s pos).2 else pos))) }, True⟩
  | _ => none
theorem snext1_it (b : Nat) (s : ByteArray) (pos : Nat) : snext1 b (some (.it s pos)) = some ⟨.tup [.v (.bool (decide (pos < s.size))), if pos < s.size then .v (.int .i64 pos) else .any, if pos < s.size then .v (.int .i32 (Utf8.decode s pos).1) else .any],
        ⟨some (b, some (.it s (if pos < s.size then pos + (Utf8.decode s pos).2 else pos))), none⟩, True⟩ := Eq.trans rfl rfl
theorem sNext_ptr (get : Nat → Option SK) (b : Nat) : sNext get (.ptr b 0 0) true = snext1 b (get b) := by
  unfold sNext snext1
  rfl
theorem decode_hi (s : ByteArray) (pos : Nat) (h : pos < s.size) (ha : ¬ (s[pos]'h).toNat < 128) : 128 ≤ (Utf8.decode s pos).1 ∧ (Utf8.decode s pos).1 < 2147483648 := by
  have e : s.get! (pos + 0) = s[pos]'h := by
    show s.get! pos = _
    simp [ByteArray.get!, getElem!_pos, h]
    rfl
  have hc := (s[pos]'h).toNat_lt
  simp only [Utf8.decode, e, ha, if_false, Utf8.runeError]
  generalize (s[pos]'h).toNat = c at *
  have h1 : ∀ x : Nat, x % 64 < 64 := fun x => Nat.mod_lt _ (by omega)
  have g1 := h1 (s.get! (pos + 1)).toNat
  have g2 := h1 (s.get! (pos + 2)).toNat
  have g3 := h1 (s.get! (pos + 3)).toNat
  repeat' split
  all_goals (try simp only [Bool.and_eq_true, decide_eq_true_eq, ge_iff_le] at *)
  all_goals (try omega)
def hexb (r : Int) : Bool := (decide (48 ≤ r) && decide (r ≤ 57)) || (decide (97 ≤ r) && decide (r ≤ 102))
def hexv (r : Int) : Int := if 48 ≤ r ∧ r ≤ 57 then r - 48 else if 97 ≤ r ∧ r ≤ 102 then r - 87 else 0
theorem hexv_rng (r : Int) : 0 ≤ hexv r ∧ hexv r < 16 := by unfold hexv; split <;> (try split) <;> omega
theorem hexb_high (r : Int) (h : 128 ≤ r) : hexb r = false := by
  simp only [hexb, Bool.or_eq_false_iff, Bool.and_eq_false_iff, decide_eq_false_iff_not]
  omega
/-- The kind of error of a text, from a place on. -/
def pcode : List UInt8 → Nat → Int
  | [], k => if k < 32 then 3 else 0
  | c :: r, k => if hexb c.toNat = false then 2 else if 32 ≤ k then 4 else pcode r (k + 1)
def hx (l : List UInt8) (i : Nat) : Int := hexv ((l.getD i 0).toNat : Int)
theorem hx_rng (l : List UInt8) (i : Nat) : 0 ≤ hx l i ∧ hx l i < 16 := hexv_rng _
/-- The bytes that so many digits make. -/
def pbyte (l : List UInt8) (k j : Nat) : Int := if 2 * j + 1 < k then hx l (2 * j) * 16 + hx l (2 * j + 1) else if 2 * j < k then hx l (2 * j) else 0
def prow (l : List UInt8) (k : Nat) : List Int := (List.range 16).map (pbyte l k)
theorem prow_length (l : List UInt8) (k : Nat) : (prow l k).length = 16 := by simp [prow]
theorem pbyte_rng (l : List UInt8) (k j : Nat) : 0 ≤ pbyte l k j ∧ pbyte l k j < 256 := by
  have h1 := hx_rng l (2 * j)
  have h2 := hx_rng l (2 * j + 1)
  unfold pbyte
  split <;> (try split) <;> omega
theorem prow_rng (l : List UInt8) (k : Nat) : ∀ x ∈ prow l k, 0 ≤ x ∧ x < 256 := by
  intro x hx
  obtain ⟨j, _, rfl⟩ := List.mem_map.1 hx
  exact pbyte_rng l k j
theorem prow_zero (l : List UInt8) : cellsI (prow l 0) = idc 0 := by
  rw [← cellsI_idc]
  have : ∀ j, pbyte l 0 j = 0 := fun j => by unfold pbyte; rw [if_neg (by omega), if_neg (by omega)]
  have h2 : prow l 0 = (List.range 16).map fun _ => 0 := by
    unfold prow
    rw [show pbyte l 0 = fun _ => 0 from funext this]
  rw [h2]
  rfl
def pnum (l : List UInt8) : Int := if pcode l 0 = 0 then num (prow l 32) else 0
theorem prow_idc (l : List UInt8) (k : Nat) : cellsI (prow l k) = idc (num (prow l k)) := by
  have := dig_num (prow l k) (prow_rng l k)
  rw [prow_length] at this
  rw [← cellsI_idc, this]
theorem splice_one (l : List SV) (i : Nat) (x : SV) (h : i < l.length) : splice l i [x] = l.set i x := by
  rw [splice, List.set_eq_take_append_cons_drop, if_pos h]
  simp
theorem prow_step (l : List UInt8) (k : Nat) (hk : k < 32) : splice (cellsI (prow l k)) (k / 2) [.v (.int .u8 (pbyte l (k + 1) (k / 2)))] = cellsI (prow l (k + 1)) := by
  rw [splice_one _ _ _ (by rw [cellsI_length, prow_length]; omega)]
  apply List.ext_getElem
  · rw [List.length_set, cellsI_length, cellsI_length, prow_length, prow_length]
  · intro i h1 h2
    rw [List.getElem_set]
    simp only [cellsI, prow, List.getElem_map, List.getElem_range]
    split
    · rename_i h; simp only [h]
    · rename_i h
      have : pbyte l k i = pbyte l (k + 1) i := by
        unfold pbyte
        by_cases g1 : 2 * i + 1 < k
        · rw [if_pos g1, if_pos (by omega)]
        · rw [if_neg g1, if_neg (by omega), if_neg (by omega), if_neg (by omega)]
      rw [this]
theorem prow_cell (l : List UInt8) (k : Nat) (hk : k < 32) : cellAt (cellsI (prow l k)) (k / 2) = .v (.int .u8 (pbyte l k (k / 2))) := by
  rw [cellsI, cellAt_map _ _ (by rw [prow_length]; omega)]
  simp only [prow, List.getD_eq_getElem?_getD, List.getElem?_map]
  rw [List.getElem?_range (by omega)]
  rfl
/-- The digit behind: what stands in the byte, and what stands there then. -/
theorem pbyte_step (l : List UInt8) (k : Nat) (hk : k < 32) : pbyte l k (k / 2) < 16 ∧ pbyte l (k + 1) (k / 2) = pbyte l k (k / 2) * 16 + hx l k := by
  have h1 := hx_rng l (2 * (k / 2))
  unfold pbyte
  rcases Nat.mod_two_eq_zero_or_one k with h | h
  · have e : 2 * (k / 2) = k := by omega
    rw [e, if_neg (by omega), if_neg (by omega), if_neg (by omega), if_pos (by omega)]
    omega
  · have e : 2 * (k / 2) + 1 = k := by omega
    rw [e, if_neg (by omega), if_pos (by omega), if_pos (by omega)]
    exact ⟨h1.2, rfl⟩
theorem or_u8 (h x : Int) (h1 : 0 ≤ h ∧ h < 16) (h2 : 0 ≤ x ∧ x < 16) : ibits .or .u8 (h * 16) x = h * 16 + x := by
  have : ∀ a b : Fin 16, ibits .or .u8 ((a.val : Int) * 16) (b.val : Int) = (a.val : Int) * 16 + (b.val : Int) := by decide
  have := this ⟨h.toNat, by omega⟩ ⟨x.toNat, by omega⟩
  simp only at this
  rwa [Int.toNat_of_nonneg h1.1, Int.toNat_of_nonneg h2.1] at this
end Go.SL
namespace Go.Proofs
open Go Go.SL
set_option maxRecDepth 100000
theorem digit_calls (r : Int) (hr : -2147483648 ≤ r ∧ r < 2147483648) : Pure Try.prog 132 [.v (.int .i32 r)] (.tup [.v (.int .u8 (hexv r)), .v (.bool (hexb r))]) := by
  have h1 : 48 ≤ r → r ≤ 57 → IntKind.u8.wrap (IntKind.i32.wrap (r - 48)) = hexv r := fun a b => by
    rw [wrap_i32 _ (by omega), wrap_u8 _ (by omega), hexv, if_pos ⟨a, b⟩]
  have h2 : 97 ≤ r → r ≤ 102 → IntKind.u8.wrap (IntKind.u8.wrap (IntKind.i32.wrap (r - 97)) + 10) = hexv r := fun a b => by
    rw [wrap_i32 _ (by omega), wrap_u8 (r - 97) (by omega), wrap_u8 _ (by omega), hexv, if_neg (by omega), if_pos ⟨a, b⟩]
    omega
  have h3 : hexb r = false → hexv r = 0 := fun a => by
    simp only [hexb, Bool.or_eq_false_iff, Bool.and_eq_false_iff, decide_eq_false_iff_not] at a
    rw [hexv, if_neg (by omega), if_neg (by omega)]
  have hb : ∀ b : Bool, hexb r = b → hexb r = b := fun _ h => h
  refine SCall.mk (fn := Try.f132) (by kernel_rfl) rfl (Nat.le_of_ble_eq_true (by kernel_rfl)) ?_
  refine Sem.go (k := 1000) ?_
  simp -dsimp (decide := true) (maxSteps := 1000000) (disch := first | omega | simp (decide := true) only [bdset_a, idc_one, idc_flat, idc_length, cellsI_length, cellsI_flat, prow_length]) only [brun_a, ↓brun_b, envOf, reduceIte, Nat.reduceEqDiff, Nat.reduceAdd, Nat.reduceSub, Nat.reduceMul, Nat.reduceBEq, Nat.reduceLeDiff, Nat.reduceLT, beq_self_eq_true, cond_true, cond_false, Int.reduceToNat, tab.u5, tab.s5, tab.a5, tab.u21, tab.s21, tab.a21, idc_part, idc_length, allocI, splice_idc]
  refine SIf.split (fun a => ?_) (fun a => ?_)
  · have a' : 48 ≤ r := by simpa using a
    simp -dsimp (decide := true) (maxSteps := 1000000) (disch := first | omega | simp (decide := true) only [bdset_a, idc_one, idc_flat, idc_length, cellsI_length, cellsI_flat, prow_length]) only [brun_a, ↓brun_b, envOf, reduceIte, Nat.reduceEqDiff, Nat.reduceAdd, Nat.reduceSub, Nat.reduceMul, Nat.reduceBEq, Nat.reduceLeDiff, Nat.reduceLT, beq_self_eq_true, cond_true, cond_false, Int.reduceToNat, tab.u5, tab.s5, tab.a5, tab.u21, tab.s21, tab.a21, idc_part, idc_length, allocI, splice_idc, a]
    refine SCond.split (fun b => ?_) (fun b => ?_)
    · have b' : r ≤ 57 := by simpa using b
      have e := h1 a' b'
      simp -dsimp (decide := true) (maxSteps := 1000000) (disch := first | omega | simp (decide := true) only [bdset_a, idc_one, idc_flat, idc_length, cellsI_length, cellsI_flat, prow_length]) only [brun_a, ↓brun_b, envOf, reduceIte, Nat.reduceEqDiff, Nat.reduceAdd, Nat.reduceSub, Nat.reduceMul, Nat.reduceBEq, Nat.reduceLeDiff, Nat.reduceLT, beq_self_eq_true, cond_true, cond_false, Int.reduceToNat, tab.u5, tab.s5, tab.a5, tab.u21, tab.s21, tab.a21, idc_part, idc_length, allocI, splice_idc, e]
      refine SQ.answer (rs := [.tmp 2, .tmp 3]) rfl rfl ?_
      simp -dsimp (decide := true) (maxSteps := 1000000) (disch := first | omega | simp (decide := true) only [bdset_a, idc_one, idc_flat, idc_length, cellsI_length, cellsI_flat, prow_length]) only [brun_a, ↓brun_b, envOf, reduceIte, Nat.reduceEqDiff, Nat.reduceAdd, Nat.reduceSub, Nat.reduceMul, Nat.reduceBEq, Nat.reduceLeDiff, Nat.reduceLT, beq_self_eq_true, cond_true, cond_false, Int.reduceToNat, tab.u5, tab.s5, tab.a5, tab.u21, tab.s21, tab.a21, hexb, a, b, Bool.true_and, Bool.true_or, bwk_a, frz1, eq_self, implies_true, rho, ↓reduceIte, forall_const]
    · have b' : ¬ r ≤ 57 := by simpa using b
      simp -dsimp (decide := true) (maxSteps := 1000000) (disch := first | omega | simp (decide := true) only [bdset_a, idc_one, idc_flat, idc_length, cellsI_length, cellsI_flat, prow_length]) only [brun_a, ↓brun_b, envOf, reduceIte, Nat.reduceEqDiff, Nat.reduceAdd, Nat.reduceSub, Nat.reduceMul, Nat.reduceBEq, Nat.reduceLeDiff, Nat.reduceLT, beq_self_eq_true, cond_true, cond_false, Int.reduceToNat, tab.u5, tab.s5, tab.a5, tab.u21, tab.s21, tab.a21, idc_part, idc_length, allocI, splice_idc]
      refine SIf.split (fun c => ?_) (fun c => ?_)
      · have c' : 97 ≤ r := by simpa using c
        simp -dsimp (decide := true) (maxSteps := 1000000) (disch := first | omega | simp (decide := true) only [bdset_a, idc_one, idc_flat, idc_length, cellsI_length, cellsI_flat, prow_length]) only [brun_a, ↓brun_b, envOf, reduceIte, Nat.reduceEqDiff, Nat.reduceAdd, Nat.reduceSub, Nat.reduceMul, Nat.reduceBEq, Nat.reduceLeDiff, Nat.reduceLT, beq_self_eq_true, cond_true, cond_false, Int.reduceToNat, tab.u5, tab.s5, tab.a5, tab.u21, tab.s21, tab.a21, idc_part, idc_length, allocI, splice_idc, c]
        refine SCond.split (fun f => ?_) (fun f => ?_)
        · have f' : r ≤ 102 := by simpa using f
          have e := h2 c' f'
          simp -dsimp (decide := true) (maxSteps := 1000000) (disch := first | omega | simp (decide := true) only [bdset_a, idc_one, idc_flat, idc_length, cellsI_length, cellsI_flat, prow_length]) only [brun_a, ↓brun_b, envOf, reduceIte, Nat.reduceEqDiff, Nat.reduceAdd, Nat.reduceSub, Nat.reduceMul, Nat.reduceBEq, Nat.reduceLeDiff, Nat.reduceLT, beq_self_eq_true, cond_true, cond_false, Int.reduceToNat, tab.u5, tab.s5, tab.a5, tab.u21, tab.s21, tab.a21, idc_part, idc_length, allocI, splice_idc, e]
          refine SQ.answer (rs := [.tmp 2, .tmp 3]) rfl rfl ?_
          simp -dsimp (decide := true) (maxSteps := 1000000) (disch := first | omega | simp (decide := true) only [bdset_a, idc_one, idc_flat, idc_length, cellsI_length, cellsI_flat, prow_length]) only [brun_a, ↓brun_b, envOf, reduceIte, Nat.reduceEqDiff, Nat.reduceAdd, Nat.reduceSub, Nat.reduceMul, Nat.reduceBEq, Nat.reduceLeDiff, Nat.reduceLT, beq_self_eq_true, cond_true, cond_false, Int.reduceToNat, tab.u5, tab.s5, tab.a5, tab.u21, tab.s21, tab.a21, hexb, a, b, c, f, Bool.true_and, Bool.or_true, bwk_a, frz1, eq_self, implies_true, rho, ↓reduceIte, forall_const]
        · have e0 : hexb r = false := by simp only [hexb, a, b, c, f, Bool.and_false, Bool.or_false]
          have e := h3 e0
          simp -dsimp (decide := true) (maxSteps := 1000000) (disch := first | omega | simp (decide := true) only [bdset_a, idc_one, idc_flat, idc_length, cellsI_length, cellsI_flat, prow_length]) only [brun_a, ↓brun_b, envOf, reduceIte, Nat.reduceEqDiff, Nat.reduceAdd, Nat.reduceSub, Nat.reduceMul, Nat.reduceBEq, Nat.reduceLeDiff, Nat.reduceLT, beq_self_eq_true, cond_true, cond_false, Int.reduceToNat, tab.u5, tab.s5, tab.a5, tab.u21, tab.s21, tab.a21, idc_part, idc_length, allocI, splice_idc]
          refine SQ.answer (rs := [.tmp 2, .tmp 3]) rfl rfl ?_
          simp -dsimp (decide := true) (maxSteps := 1000000) (disch := first | omega | simp (decide := true) only [bdset_a, idc_one, idc_flat, idc_length, cellsI_length, cellsI_flat, prow_length]) only [brun_a, ↓brun_b, envOf, reduceIte, Nat.reduceEqDiff, Nat.reduceAdd, Nat.reduceSub, Nat.reduceMul, Nat.reduceBEq, Nat.reduceLeDiff, Nat.reduceLT, beq_self_eq_true, cond_true, cond_false, Int.reduceToNat, tab.u5, tab.s5, tab.a5, tab.u21, tab.s21, tab.a21, e0, e, bwk_a, frz1, eq_self, implies_true, rho, ↓reduceIte, forall_const]
      · have e0 : hexb r = false := by simp only [hexb, a, b, c, Bool.and_false, Bool.false_and, Bool.or_false]
        have e := h3 e0
        simp -dsimp (decide := true) (maxSteps := 1000000) (disch := first | omega | simp (decide := true) only [bdset_a, idc_one, idc_flat, idc_length, cellsI_length, cellsI_flat, prow_length]) only [brun_a, ↓brun_b, envOf, reduceIte, Nat.reduceEqDiff, Nat.reduceAdd, Nat.reduceSub, Nat.reduceMul, Nat.reduceBEq, Nat.reduceLeDiff, Nat.reduceLT, beq_self_eq_true, cond_true, cond_false, Int.reduceToNat, tab.u5, tab.s5, tab.a5, tab.u21, tab.s21, tab.a21, idc_part, idc_length, allocI, splice_idc, c]
        refine SQ.answer (rs := [.tmp 2, .tmp 3]) rfl rfl ?_
        simp -dsimp (decide := true) (maxSteps := 1000000) (disch := first | omega | simp (decide := true) only [bdset_a, idc_one, idc_flat, idc_length, cellsI_length, cellsI_flat, prow_length]) only [brun_a, ↓brun_b, envOf, reduceIte, Nat.reduceEqDiff, Nat.reduceAdd, Nat.reduceSub, Nat.reduceMul, Nat.reduceBEq, Nat.reduceLeDiff, Nat.reduceLT, beq_self_eq_true, cond_true, cond_false, Int.reduceToNat, tab.u5, tab.s5, tab.a5, tab.u21, tab.s21, tab.a21, e0, e, bwk_a, frz1, eq_self, implies_true, rho, ↓reduceIte, forall_const]
  · have a' : ¬ 48 ≤ r := by simpa using a
    have c : decide (97 ≤ r) = false := decide_eq_false (by omega)
    have e0 : hexb r = false := by simp only [hexb, a, c, Bool.false_and, Bool.or_false]
    have e := h3 e0
    simp -dsimp (decide := true) (maxSteps := 1000000) (disch := first | omega | simp (decide := true) only [bdset_a, idc_one, idc_flat, idc_length, cellsI_length, cellsI_flat, prow_length]) only [brun_a, ↓brun_b, envOf, reduceIte, Nat.reduceEqDiff, Nat.reduceAdd, Nat.reduceSub, Nat.reduceMul, Nat.reduceBEq, Nat.reduceLeDiff, Nat.reduceLT, beq_self_eq_true, cond_true, cond_false, Int.reduceToNat, tab.u5, tab.s5, tab.a5, tab.u21, tab.s21, tab.a21, idc_part, idc_length, allocI, splice_idc, a, c]
    refine SQ.answer (rs := [.tmp 2, .tmp 3]) rfl rfl ?_
    simp -dsimp (decide := true) (maxSteps := 1000000) (disch := first | omega | simp (decide := true) only [bdset_a, idc_one, idc_flat, idc_length, cellsI_length, cellsI_flat, prow_length]) only [brun_a, ↓brun_b, envOf, reduceIte, Nat.reduceEqDiff, Nat.reduceAdd, Nat.reduceSub, Nat.reduceMul, Nat.reduceBEq, Nat.reduceLeDiff, Nat.reduceLT, beq_self_eq_true, cond_true, cond_false, Int.reduceToNat, tab.u5, tab.s5, tab.a5, tab.u21, tab.s21, tab.a21, e0, e, bwk_a, frz1, eq_self, implies_true, rho, ↓reduceIte, forall_const]
theorem parse_calls (s : ByteArray) (hs : s.size < 4611686018427387904) : Pure Try.prog 86 [.v (.string s)] (.tup [.agg (idc (pnum s.data.toList)), .v (.int .i64 (pcode s.data.toList 0))]) := by
  have hsz : s.size = s.data.toList.length := rfl
  have hbld : sBuild Try.prog 23 [] = some ⟨.agg (idc 0), {}, True⟩ := by
    rw [idc_def, sBuild_eq, tab.z23, tab.l23]
    rfl
  refine SCall.mk (fn := Try.f86) (by kernel_rfl) rfl (Nat.le_of_ble_eq_true (by kernel_rfl)) ?_
  refine Sem.go (k := 1000) ?_
  simp -dsimp (decide := true) (maxSteps := 1000000) (disch := first | omega | simp (decide := true) only [bdset_a, idc_one, idc_flat, idc_length, cellsI_length, cellsI_flat, prow_length]) only [brun_a, ↓brun_b, envOf, reduceIte, Nat.reduceEqDiff, Nat.reduceAdd, Nat.reduceSub, Nat.reduceMul, Nat.reduceBEq, Nat.reduceLeDiff, Nat.reduceLT, beq_self_eq_true, cond_true, cond_false, Int.reduceToNat, tab.u3, tab.s3, tab.a3, tab.u4, tab.s4, tab.a4, tab.u5, tab.s5, tab.a5, tab.u9, tab.s9, tab.a9, tab.u21, tab.s21, tab.a21, tab.u23, tab.s23, tab.a23, idc_part, idc_length, allocI, splice_idc, sRange_str, srange1_str]
  generalize hl : s.data.toList = l at *
  refine Sem.loop (ι := {k : Nat // k ≤ 32 ∧ k ≤ l.length ∧ pcode l 0 = pcode (l.drop k) k}) (fun k => ⟨41, 0, [(0, .v (.string s)), (2, .ptr 0 0 0), (4, .ptr 1 0 0), (10, .ptr 2 0 0)],
    [some (.row ⟨16, 1, true, 23, fun _ => idc 0⟩), some (.row ⟨16, 1, true, 23, fun _ => cellsI (prow l k.1)⟩), some (.it s k.1)]⟩) (fun k => l.length - k.1) ⟨0, by omega, by omega, rfl⟩ [0, 1, 2] ?_ ?_
  · (refine Wk.ofC ?_; simp -dsimp (decide := true) (maxSteps := 1000000) (disch := first | omega | simp (decide := true) only [bdset_a, idc_one, idc_flat, idc_length, cellsI_length, cellsI_flat, prow_length]) only [brun_a, ↓brun_b, envOf, reduceIte, Nat.reduceEqDiff, Nat.reduceAdd, Nat.reduceSub, Nat.reduceMul, Nat.reduceBEq, Nat.reduceLeDiff, Nat.reduceLT, beq_self_eq_true, cond_true, cond_false, Int.reduceToNat, tab.u3, tab.s3, tab.a3, tab.u4, tab.s4, tab.a4, tab.u5, tab.s5, tab.a5, tab.u9, tab.s9, tab.a9, tab.u21, tab.s21, tab.a21, tab.u23, tab.s23, tab.a23, idc_part, idc_length, allocI, splice_idc, prow_zero, bwk_a, frz1, eq_self, implies_true, rho, ↓reduceIte, forall_const])
  · rintro ⟨k, hk, hkl, hc⟩
    refine Sem.go (k := 1000) ?_
    by_cases h : k < s.size
    · have hn : l.drop k = l[k] :: l.drop (k + 1) := List.drop_eq_getElem_cons (by omega)
      have hb : s[k] = l[k]'(by omega) := by subst hl; rfl
      rw [hn, pcode] at hc
      have hgd : l.getD k 0 = l[k]'(by omega) := by rw [List.getD_eq_getElem?_getD, List.getElem?_eq_getElem (by omega)]; rfl
      have hd : hexb ((Utf8.decode s k).1 : Int) = hexb ((l[k]'(by omega)).toNat : Int) ∧ (hexb ((l[k]'(by omega)).toNat : Int) = true → (Utf8.decode s k).1 = (l[k]'(by omega)).toNat ∧ (Utf8.decode s k).2 = 1) ∧ (Utf8.decode s k).1 < 2147483648 := by
        rw [← hb]
        by_cases ha : (s[k]).toNat < 128
        · have := decode_ascii s k h ha
          rw [this]
          exact ⟨rfl, fun _ => ⟨rfl, rfl⟩, by show (s[k]).toNat < 2147483648; omega⟩
        · obtain ⟨d1, d2⟩ := decode_hi s k h ha
          have x1 := hexb_high ((Utf8.decode s k).1 : Int) (by omega)
          have x2 := hexb_high ((s[k]).toNat : Int) (by omega)
          exact ⟨by rw [x1, x2], fun q => by rw [x2] at q; exact absurd q (by decide), d2⟩
      have hgx : hexv ((l[k]'(by omega)).toNat : Int) = hx l k := by rw [hx, hgd]
      simp -dsimp (decide := true) (maxSteps := 1000000) (disch := first | omega | simp (decide := true) only [bdset_a, idc_one, idc_flat, idc_length, cellsI_length, cellsI_flat, prow_length]) only [brun_a, ↓brun_b, envOf, reduceIte, Nat.reduceEqDiff, Nat.reduceAdd, Nat.reduceSub, Nat.reduceMul, Nat.reduceBEq, Nat.reduceLeDiff, Nat.reduceLT, beq_self_eq_true, cond_true, cond_false, Int.reduceToNat, tab.u3, tab.s3, tab.a3, tab.u4, tab.s4, tab.a4, tab.u5, tab.s5, tab.a5, tab.u9, tab.s9, tab.a9, tab.u21, tab.s21, tab.a21, tab.u23, tab.s23, tab.a23, idc_part, idc_length, allocI, splice_idc, sNext_ptr, snext1_it, h]
      generalize Utf8.decode s k = dd at *
      obtain ⟨rr, ww⟩ := dd
      simp only at hd
      obtain ⟨hd1, hd2, hd3⟩ := hd
      refine SemOps.callq (k := 1000) cal.f132 (digit_calls rr (by omega)) rfl rfl rfl rfl (by simp only [bflat_a, idc_flat, cellsI_flat]) (by simp only [bflat_a, idc_flat, cellsI_flat]) (by simp -dsimp (decide := true) (maxSteps := 1000000) (disch := first | omega | simp (decide := true) only [bdset_a, idc_one, idc_flat, idc_length, cellsI_length, cellsI_flat, prow_length]) only [brun_a, ↓brun_b, envOf, reduceIte, Nat.reduceEqDiff, Nat.reduceAdd, Nat.reduceSub, Nat.reduceMul, Nat.reduceBEq, Nat.reduceLeDiff, Nat.reduceLT, beq_self_eq_true, cond_true, cond_false, Int.reduceToNat, tab.u3, tab.s3, tab.a3, tab.u4, tab.s4, tab.a4, tab.u5, tab.s5, tab.a5, tab.u9, tab.s9, tab.a9, tab.u21, tab.s21, tab.a21, tab.u23, tab.s23, tab.a23]) ?_
      simp -dsimp (decide := true) (maxSteps := 1000000) (disch := first | omega | simp (decide := true) only [bdset_a, idc_one, idc_flat, idc_length, cellsI_length, cellsI_flat, prow_length]) only [brun_a, ↓brun_b, envOf, reduceIte, Nat.reduceEqDiff, Nat.reduceAdd, Nat.reduceSub, Nat.reduceMul, Nat.reduceBEq, Nat.reduceLeDiff, Nat.reduceLT, beq_self_eq_true, cond_true, cond_false, Int.reduceToNat, tab.u3, tab.s3, tab.a3, tab.u4, tab.s4, tab.a4, tab.u5, tab.s5, tab.a5, tab.u9, tab.s9, tab.a9, tab.u21, tab.s21, tab.a21, tab.u23, tab.s23, tab.a23, idc_part, idc_length, allocI, splice_idc]
      refine SCond.split (fun h1 => ?_) (fun h1 => ?_)
      · have h1' : hexb ((l[k]'(by omega)).toNat : Int) = false := by rw [← hd1]; simpa using h1
        rw [if_pos h1'] at hc
        simp -dsimp (decide := true) (maxSteps := 1000000) (disch := first | omega | simp (decide := true) only [bdset_a, idc_one, idc_flat, idc_length, cellsI_length, cellsI_flat, prow_length]) only [brun_a, ↓brun_b, envOf, reduceIte, Nat.reduceEqDiff, Nat.reduceAdd, Nat.reduceSub, Nat.reduceMul, Nat.reduceBEq, Nat.reduceLeDiff, Nat.reduceLT, beq_self_eq_true, cond_true, cond_false, Int.reduceToNat, tab.u3, tab.s3, tab.a3, tab.u4, tab.s4, tab.a4, tab.u5, tab.s5, tab.a5, tab.u9, tab.s9, tab.a9, tab.u21, tab.s21, tab.a21, tab.u23, tab.s23, tab.a23, idc_part, idc_length, allocI, splice_idc, hbld]
        refine SQ.answer (rs := [.cell 2 23, .tmp 3]) rfl rfl ?_
        simp -dsimp (decide := true) (maxSteps := 1000000) (disch := first | omega | simp (decide := true) only [bdset_a, idc_one, idc_flat, idc_length, cellsI_length, cellsI_flat, prow_length]) only [brun_a, ↓brun_b, envOf, reduceIte, Nat.reduceEqDiff, Nat.reduceAdd, Nat.reduceSub, Nat.reduceMul, Nat.reduceBEq, Nat.reduceLeDiff, Nat.reduceLT, beq_self_eq_true, cond_true, cond_false, Int.reduceToNat, tab.u3, tab.s3, tab.a3, tab.u4, tab.s4, tab.a4, tab.u5, tab.s5, tab.a5, tab.u9, tab.s9, tab.a9, tab.u21, tab.s21, tab.a21, tab.u23, tab.s23, tab.a23, idc_part, idc_length, allocI, splice_idc, pnum, hc, if_neg (show ¬ ((2 : Int) = 0) by decide), bwk_a, frz1, eq_self, implies_true, rho, ↓reduceIte, forall_const]
      · have h1' : hexb ((l[k]'(by omega)).toNat : Int) = true := by rw [← hd1]; simpa using h1
        obtain ⟨rfl, rfl⟩ := hd2 h1'
        rw [if_neg (by rw [h1']; decide)] at hc
        simp -dsimp (decide := true) (maxSteps := 1000000) (disch := first | omega | simp (decide := true) only [bdset_a, idc_one, idc_flat, idc_length, cellsI_length, cellsI_flat, prow_length]) only [brun_a, ↓brun_b, envOf, reduceIte, Nat.reduceEqDiff, Nat.reduceAdd, Nat.reduceSub, Nat.reduceMul, Nat.reduceBEq, Nat.reduceLeDiff, Nat.reduceLT, beq_self_eq_true, cond_true, cond_false, Int.reduceToNat, tab.u3, tab.s3, tab.a3, tab.u4, tab.s4, tab.a4, tab.u5, tab.s5, tab.a5, tab.u9, tab.s9, tab.a9, tab.u21, tab.s21, tab.a21, tab.u23, tab.s23, tab.a23, idc_part, idc_length, allocI, splice_idc]
        refine SCond.split (fun h2 => ?_) (fun h2 => ?_)
        · simp only [decide_eq_true_eq] at h2
          rw [if_pos (by omega)] at hc
          simp -dsimp (decide := true) (maxSteps := 1000000) (disch := first | omega | simp (decide := true) only [bdset_a, idc_one, idc_flat, idc_length, cellsI_length, cellsI_flat, prow_length]) only [brun_a, ↓brun_b, envOf, reduceIte, Nat.reduceEqDiff, Nat.reduceAdd, Nat.reduceSub, Nat.reduceMul, Nat.reduceBEq, Nat.reduceLeDiff, Nat.reduceLT, beq_self_eq_true, cond_true, cond_false, Int.reduceToNat, tab.u3, tab.s3, tab.a3, tab.u4, tab.s4, tab.a4, tab.u5, tab.s5, tab.a5, tab.u9, tab.s9, tab.a9, tab.u21, tab.s21, tab.a21, tab.u23, tab.s23, tab.a23, idc_part, idc_length, allocI, splice_idc, hbld]
          refine SQ.answer (rs := [.cell 2 23, .tmp 3]) rfl rfl ?_
          simp -dsimp (decide := true) (maxSteps := 1000000) (disch := first | omega | simp (decide := true) only [bdset_a, idc_one, idc_flat, idc_length, cellsI_length, cellsI_flat, prow_length]) only [brun_a, ↓brun_b, envOf, reduceIte, Nat.reduceEqDiff, Nat.reduceAdd, Nat.reduceSub, Nat.reduceMul, Nat.reduceBEq, Nat.reduceLeDiff, Nat.reduceLT, beq_self_eq_true, cond_true, cond_false, Int.reduceToNat, tab.u3, tab.s3, tab.a3, tab.u4, tab.s4, tab.a4, tab.u5, tab.s5, tab.a5, tab.u9, tab.s9, tab.a9, tab.u21, tab.s21, tab.a21, tab.u23, tab.s23, tab.a23, idc_part, idc_length, allocI, splice_idc, pnum, hc, if_neg (show ¬ ((4 : Int) = 0) by decide), bwk_a, frz1, eq_self, implies_true, rho, ↓reduceIte, forall_const]
        · simp only [decide_eq_false_iff_not] at h2
          have hk' : k < 32 := by omega
          rw [if_neg (by omega)] at hc
          have hq : IntKind.i64.wrap ((k : Int).tdiv 2) = ((k / 2 : Nat) : Int) := by
            rw [Int.tdiv_eq_ediv_of_nonneg (by omega), wrap_i64 _ (by omega)]; omega
          have hcell := prow_cell l k hk'
          obtain ⟨p1, p2⟩ := pbyte_step l k hk'
          have p0 := (pbyte_rng l k (k / 2)).1
          have hv := hx_rng l k
          have hset := prow_step l k hk'
          have hrl : (cellsI (prow l k)).length = 16 := by rw [cellsI_length, prow_length]
          rw [p2] at hset
          generalize pbyte l k (k / 2) = pb at *
          have hsh : IntKind.u8.wrap (pb * 2 ^ (min 4 IntKind.u8.bits)) = pb * 16 := by
            have : min 4 IntKind.u8.bits = 4 := by decide
            rw [this, wrap_u8 _ (by omega)]
            omega
          have hor := or_u8 pb (hx l k) ⟨p0, p1⟩ hv
          simp -dsimp (decide := true) (maxSteps := 1000000) (disch := first | omega | simp (decide := true) only [bdset_a, idc_one, idc_flat, idc_length, cellsI_length, cellsI_flat, prow_length]) only [brun_a, ↓brun_b, envOf, reduceIte, Nat.reduceEqDiff, Nat.reduceAdd, Nat.reduceSub, Nat.reduceMul, Nat.reduceBEq, Nat.reduceLeDiff, Nat.reduceLT, beq_self_eq_true, cond_true, cond_false, Int.reduceToNat, tab.u3, tab.s3, tab.a3, tab.u4, tab.s4, tab.a4, tab.u5, tab.s5, tab.a5, tab.u9, tab.s9, tab.a9, tab.u21, tab.s21, tab.a21, tab.u23, tab.s23, tab.a23, idc_part, idc_length, allocI, splice_idc, hgx, hq, hcell, hsh, hor, hset]
          refine And.intro (by omega) (And.intro (by omega) ⟨⟨k + 1, by omega, by omega, hc⟩, [0, 1, 2], ?_, by show l.length - (k + 1) < l.length - k; omega⟩)
          (refine Wk.ofC ?_; simp -dsimp (decide := true) (maxSteps := 1000000) (disch := first | omega | simp (decide := true) only [bdset_a, idc_one, idc_flat, idc_length, cellsI_length, cellsI_flat, prow_length]) only [brun_a, ↓brun_b, envOf, reduceIte, Nat.reduceEqDiff, Nat.reduceAdd, Nat.reduceSub, Nat.reduceMul, Nat.reduceBEq, Nat.reduceLeDiff, Nat.reduceLT, beq_self_eq_true, cond_true, cond_false, Int.reduceToNat, tab.u3, tab.s3, tab.a3, tab.u4, tab.s4, tab.a4, tab.u5, tab.s5, tab.a5, tab.u9, tab.s9, tab.a9, tab.u21, tab.s21, tab.a21, tab.u23, tab.s23, tab.a23, idc_part, idc_length, allocI, splice_idc, bwk_a, frz1, eq_self, implies_true, rho, ↓reduceIte, forall_const])
    · simp -dsimp (decide := true) (maxSteps := 1000000) (disch := first | omega | simp (decide := true) only [bdset_a, idc_one, idc_flat, idc_length, cellsI_length, cellsI_flat, prow_length]) only [brun_a, ↓brun_b, envOf, reduceIte, Nat.reduceEqDiff, Nat.reduceAdd, Nat.reduceSub, Nat.reduceMul, Nat.reduceBEq, Nat.reduceLeDiff, Nat.reduceLT, beq_self_eq_true, cond_true, cond_false, Int.reduceToNat, tab.u3, tab.s3, tab.a3, tab.u4, tab.s4, tab.a4, tab.u5, tab.s5, tab.a5, tab.u9, tab.s9, tab.a9, tab.u21, tab.s21, tab.a21, tab.u23, tab.s23, tab.a23, idc_part, idc_length, allocI, splice_idc, sNext_ptr, snext1_it, h]
      have hkl' : k = l.length := by omega
      rw [hkl', List.drop_length, pcode] at hc
      refine SCond.split (fun h1 => ?_) (fun h1 => ?_)
      · simp only [decide_eq_true_eq] at h1
        rw [if_pos (by omega)] at hc
        simp -dsimp (decide := true) (maxSteps := 1000000) (disch := first | omega | simp (decide := true) only [bdset_a, idc_one, idc_flat, idc_length, cellsI_length, cellsI_flat, prow_length]) only [brun_a, ↓brun_b, envOf, reduceIte, Nat.reduceEqDiff, Nat.reduceAdd, Nat.reduceSub, Nat.reduceMul, Nat.reduceBEq, Nat.reduceLeDiff, Nat.reduceLT, beq_self_eq_true, cond_true, cond_false, Int.reduceToNat, tab.u3, tab.s3, tab.a3, tab.u4, tab.s4, tab.a4, tab.u5, tab.s5, tab.a5, tab.u9, tab.s9, tab.a9, tab.u21, tab.s21, tab.a21, tab.u23, tab.s23, tab.a23, idc_part, idc_length, allocI, splice_idc, hbld]
        refine SQ.answer (rs := [.cell 2 23, .tmp 3]) rfl rfl ?_
        simp -dsimp (decide := true) (maxSteps := 1000000) (disch := first | omega | simp (decide := true) only [bdset_a, idc_one, idc_flat, idc_length, cellsI_length, cellsI_flat, prow_length]) only [brun_a, ↓brun_b, envOf, reduceIte, Nat.reduceEqDiff, Nat.reduceAdd, Nat.reduceSub, Nat.reduceMul, Nat.reduceBEq, Nat.reduceLeDiff, Nat.reduceLT, beq_self_eq_true, cond_true, cond_false, Int.reduceToNat, tab.u3, tab.s3, tab.a3, tab.u4, tab.s4, tab.a4, tab.u5, tab.s5, tab.a5, tab.u9, tab.s9, tab.a9, tab.u21, tab.s21, tab.a21, tab.u23, tab.s23, tab.a23, idc_part, idc_length, allocI, splice_idc, pnum, hc, if_neg (show ¬ ((3 : Int) = 0) by decide), bwk_a, frz1, eq_self, implies_true, rho, ↓reduceIte, forall_const]
      · simp only [decide_eq_false_iff_not] at h1
        rw [if_neg (by omega)] at hc
        obtain rfl : k = 32 := by omega
        simp -dsimp (decide := true) (maxSteps := 1000000) (disch := first | omega | simp (decide := true) only [bdset_a, idc_one, idc_flat, idc_length, cellsI_length, cellsI_flat, prow_length]) only [brun_a, ↓brun_b, envOf, reduceIte, Nat.reduceEqDiff, Nat.reduceAdd, Nat.reduceSub, Nat.reduceMul, Nat.reduceBEq, Nat.reduceLeDiff, Nat.reduceLT, beq_self_eq_true, cond_true, cond_false, Int.reduceToNat, tab.u3, tab.s3, tab.a3, tab.u4, tab.s4, tab.a4, tab.u5, tab.s5, tab.a5, tab.u9, tab.s9, tab.a9, tab.u21, tab.s21, tab.a21, tab.u23, tab.s23, tab.a23, idc_part, idc_length, allocI, splice_idc, prow_idc]
        refine SQ.answer (rs := [.cell 2 23, .tmp 3]) rfl rfl ?_
        simp -dsimp (decide := true) (maxSteps := 1000000) (disch := first | omega | simp (decide := true) only [bdset_a, idc_one, idc_flat, idc_length, cellsI_length, cellsI_flat, prow_length]) only [brun_a, ↓brun_b, envOf, reduceIte, Nat.reduceEqDiff, Nat.reduceAdd, Nat.reduceSub, Nat.reduceMul, Nat.reduceBEq, Nat.reduceLeDiff, Nat.reduceLT, beq_self_eq_true, cond_true, cond_false, Int.reduceToNat, tab.u3, tab.s3, tab.a3, tab.u4, tab.s4, tab.a4, tab.u5, tab.s5, tab.a5, tab.u9, tab.s9, tab.a9, tab.u21, tab.s21, tab.a21, tab.u23, tab.s23, tab.a23, idc_part, idc_length, allocI, splice_idc, pnum, hc, if_pos (show (0 : Int) = 0 from rfl), bwk_a, frz1, eq_self, implies_true, rho, ↓reduceIte, forall_const]
end Go.Proofs
