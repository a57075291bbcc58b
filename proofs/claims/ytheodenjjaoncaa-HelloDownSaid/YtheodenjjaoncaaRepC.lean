/- Contracts of functions that the laws reach, on abstract values, and what they need: no conditions but those that each theorem states. -/
import Derived.Test.YtheodenjjaoncaaRepB
import Derived.Lib.BytesEntry
import Derived.Lib.Bytealg
set_option linter.unusedVariables false
set_option linter.unusedSimpArgs false
namespace Go.SL
open Go
def cmpI : List Int → List Int → Int
  | [], [] => 0
  | [], _ :: _ => -1
  | _ :: _, [] => 1
  | a :: l, b :: m => if a < b then -1 else if b < a then 1 else cmpI l m

theorem u8_lt (a b : Int) (ha : 0 ≤ a ∧ a < 256) (hb : 0 ≤ b ∧ b < 256) : (a.toNat.toUInt8 < b.toNat.toUInt8) ↔ a < b := by
  rw [UInt8.lt_iff_toNat_lt]
  simp only [Nat.toUInt8, UInt8.toNat_ofNat']
  omega
theorem cmpI_eq : ∀ (a b : List Int), (∀ x ∈ a, 0 ≤ x ∧ x < 256) → (∀ x ∈ b, 0 ≤ x ∧ x < 256) → Lib.compareBytes (a.map fun x => x.toNat.toUInt8) (b.map fun x => x.toNat.toUInt8) = cmpI a b
  | [], [], _, _ => rfl
  | [], _ :: _, _, _ => rfl
  | _ :: _, [], _, _ => rfl
  | a :: l, b :: m, ha, hb => by
    have h1 := u8_lt a b (ha a (by simp)) (hb b (by simp))
    have h2 := u8_lt b a (hb b (by simp)) (ha a (by simp))
    simp only [List.map_cons, Lib.compareBytes, cmpI, h1, h2]
    rw [cmpI_eq l m (fun x hx => ha x (by simp [hx])) (fun x hx => hb x (by simp [hx]))]

section
variable {P : Program} {w : World} {β : Bt}
/-- The bytes that a slice over an array's cells holds. -/
theorem run_bytesOf_asl {b : Nat} {L : List (Option SK)} (hh : RelH w β L) {z : Nat} {own : Bool} {ty : TypeId} {el : Nat → List SV} {m : Nat} (hg : getL L b = some (.row ⟨z, m, own, ty, el⟩)) (hm : 0 < m)
    (xs : List Int) (hxs : el 0 = xs.map fun x => SV.v (.int .u8 x)) {v : Value} (hv : RelV β (.asl b 0 0 xs.length) v) :
    (Extern.Bytes.bytesOf v).run P w = .ok ⟨(xs.map fun x => x.toNat.toUInt8).toArray⟩ w := by
  obtain ⟨p, c, hp, rfl, hc⟩ := hv
  obtain ⟨q, hq, rk⟩ := hh.blk b _ (getL_some.1 hg)
  rw [hp] at hq
  cases hq
  obtain ⟨r1, r2, r3, r4⟩ := rk
  have := Lib.run_loadBytesX (P := P) (w := w) xs ⟨p.blk, p.off + 0 * p.size + 0, none⟩ .empty fun j x hx => by
    obtain ⟨y, h1, _, h3⟩ := (r3 0 hm).2 j (.v (.int .u8 x)) (by show (el 0)[j]? = _; rw [hxs, List.getElem?_map, hx]; rfl)
    obtain rfl : y = .int .u8 x := h3
    rw [add_plain]
    simpa using h1
  unfold Extern.Bytes.bytesOf
  rw [this]
  have e : ByteArray.empty.data = #[] := rfl
  rw [e]
  simp [Lib.bytesOf]
end
end Go.SL
namespace Go.Proofs
open Go Go.SL
def I16.cmp (a b : I16) : Int := cmpI a.l b.l

theorem bcmp_calls (a b : I16) : Reads Try.prog 130 [.asl 0 0 0 16, .asl 1 0 0 16] [some (.row ⟨16, 1, false, 23, fun _ => a.c⟩), some (.row ⟨16, 1, false, 23, fun _ => b.c⟩)] (.v (.int .i64 (I16.cmp a b))) := by
  refine SCall.mk (fn := Try.f130) (by kernel_rfl) rfl (Nat.le_of_ble_eq_true (by kernel_rfl)) ?_
  refine Sem.go (k := 1000) ?_
  simp -dsimp (decide := true) (maxSteps := 1000000) (disch := first | omega | simp (decide := true) only [bdset_a, Hd.one, Hd.c_length, I16.c_length, I16.one, I16.flat, Hd.flat]) only [brun_a, ↓brun_b, envOf, reduceIte, Nat.reduceEqDiff, Nat.reduceAdd, Nat.reduceSub, Nat.reduceMul, Nat.reduceBEq, Nat.reduceLeDiff, Nat.reduceLT, beq_self_eq_true, cond_true, cond_false, Int.reduceToNat]
  refine SemOps.value (k := 1000) (x := .v (.int .i64 (I16.cmp a b))) rfl ?_ (by simp -dsimp (decide := true) (maxSteps := 1000000) (disch := first | omega | simp (decide := true) only [bdset_a, Hd.one, Hd.c_length, I16.c_length, I16.one, I16.flat, Hd.flat]) only [brun_a, ↓brun_b, envOf, reduceIte, Nat.reduceEqDiff, Nat.reduceAdd, Nat.reduceSub, Nat.reduceMul, Nat.reduceBEq, Nat.reduceLeDiff, Nat.reduceLT, beq_self_eq_true, cond_true, cond_false, Int.reduceToNat]) ?_
  · intro o β act w hr
    have e5 := hr.env 5
    have e6 := hr.env 6
    simp only [↓lookup_cons, ↓lookup1_true, ↓lookup1_false, Nat.reduceBEq] at e5 e6
    have r1 := run_bytesOf_asl (P := Try.prog) hr.heap (b := 0) rfl (by decide) a.l rfl (by rw [a.len]; exact e5)
    have r2 := run_bytesOf_asl (P := Try.prog) hr.heap (b := 1) rfl (by decide) b.l rfl (by rw [b.len]; exact e6)
    refine ⟨_, ?_, rfl⟩
    have hf : act.eval (.func 170) = .func (.func 170) #[] #[] := rfl
    have h5 : act.eval (.tmp 5) = act.tmps.getD 5 undef := rfl
    have h6 : act.eval (.tmp 6) = act.tmps.getD 6 undef := rfl
    have hc := run_callFunc_extern (P := Try.prog) (f := 170) (fn := Try.f170) (by kernel_rfl) (by kernel_rfl) (by kernel_rfl) (by kernel_rfl) (e := Extern.BytealgCompare.compare) (by kernel_rfl)
    simp only [execOp, resolve, Deferred.ofValue, hf, Sem.run_bind, Sem.run_pure, Result.andThen_ok, invoke]
    rw [hc]
    have hargs : (#[] ++ Array.map act.eval #[Operand.tmp 5, Operand.tmp 6] ++ #[] : Array Value) = #[act.tmps.getD 5 undef, act.tmps.getD 6 undef] := by simp [h5, h6]
    rw [hargs]
    have hcmp : ∀ x y, Extern.BytealgCompare.compare #[x, y] = (do pure (goInt (Extern.BytealgCompare.cmp (← Extern.Bytes.bytesOf x) (← Extern.Bytes.bytesOf y)))) := fun _ _ => rfl
    rw [hcmp]
    simp only [Sem.run_bind, r1, r2, Result.andThen_ok, Sem.run_pure, goInt]
    rw [Lib.cmp_eq, I16.cmp, ← cmpI_eq a.l b.l a.rng b.rng]
  · simp -dsimp (decide := true) (maxSteps := 1000000) (disch := first | omega | simp (decide := true) only [bdset_a, Hd.one, Hd.c_length, I16.c_length, I16.one, I16.flat, Hd.flat]) only [brun_a, ↓brun_b, envOf, reduceIte, Nat.reduceEqDiff, Nat.reduceAdd, Nat.reduceSub, Nat.reduceMul, Nat.reduceBEq, Nat.reduceLeDiff, Nat.reduceLT, beq_self_eq_true, cond_true, cond_false, Int.reduceToNat]
    exact SQ.ansR rfl ⟨trivial, trivial⟩ rfl rfl (fun _ => rfl)

set_option maxRecDepth 100000 in
theorem compare_calls (a b : I16) : Pure Try.prog 72 [.agg a.c, .agg b.c] (.v (.int .i64 (I16.cmp a b))) := by
  refine SCall.mk (fn := Try.f72) (by kernel_rfl) rfl (Nat.le_of_ble_eq_true (by kernel_rfl)) ?_
  refine Sem.go (k := 1000) ?_
  simp -dsimp (decide := true) (maxSteps := 1000000) (disch := first | omega | simp (decide := true) only [bdset_a, Hd.one, Hd.c_length, I16.c_length, I16.one, I16.flat, Hd.flat]) only [brun_a, ↓brun_b, envOf, reduceIte, Nat.reduceEqDiff, Nat.reduceAdd, Nat.reduceSub, Nat.reduceMul, Nat.reduceBEq, Nat.reduceLeDiff, Nat.reduceLT, beq_self_eq_true, cond_true, cond_false, Int.reduceToNat, tab.u2, tab.s2, tab.a2, tab.u3, tab.s3, tab.a3, tab.u5, tab.s5, tab.a5, tab.u23, tab.s23, tab.a23, tab.u24, tab.s24, tab.u26, tab.s26, tab.a26, tab.u28, tab.s28, tab.a28, tab.u30, tab.s30, tab.u36, tab.s36, tab.a36, tab.f26x0, tab.f26x1, tab.f26x2, tab.f28x0, tab.f28x1, tab.f28x2, I16.part, Hd.part_id, Hd.part_n, Hd.part_far, Hd.part, Hd.c_length, I16.c_length, sw_draw]
  refine Sem.draw (by kernel_rfl) (.one 0 (.one 1 (.alt 2 (.one 3 .done) .non))) [] (by kernel_rfl) ?_
  simp -dsimp (decide := true) (maxSteps := 1000000) (disch := first | omega | simp (decide := true) only [bdset_a, Hd.one, Hd.c_length, I16.c_length, I16.one, I16.flat, Hd.flat]) only [brun_a, ↓brun_b, envOf, reduceIte, Nat.reduceEqDiff, Nat.reduceAdd, Nat.reduceSub, Nat.reduceMul, Nat.reduceBEq, Nat.reduceLeDiff, Nat.reduceLT, beq_self_eq_true, cond_true, cond_false, Int.reduceToNat, tab.u2, tab.s2, tab.a2, tab.u3, tab.s3, tab.a3, tab.u5, tab.s5, tab.a5, tab.u23, tab.s23, tab.a23, tab.u24, tab.s24, tab.u26, tab.s26, tab.a26, tab.u28, tab.s28, tab.a28, tab.u30, tab.s30, tab.u36, tab.s36, tab.a36, tab.f26x0, tab.f26x1, tab.f26x2, tab.f28x0, tab.f28x1, tab.f28x2, I16.part, Hd.part_id, Hd.part_n, Hd.part_far, Hd.part, Hd.c_length, I16.c_length]

  refine OpSem.callr rfl rfl (fn := Try.f130) (by kernel_rfl) rfl (by kernel_rfl) [0, 1] (bcmp_calls a b) rfl rfl (fun _ => rfl) (by decide) ⟨⟨rfl, rfl, rfl, fun h => h, fun e _ => ?_⟩, ⟨rfl, rfl, rfl, fun h => h, fun e _ => ?_⟩, trivial⟩ (by simp -dsimp (decide := true) (maxSteps := 1000000) (disch := first | omega | simp (decide := true) only [bdset_a, Hd.one, Hd.c_length, I16.c_length, I16.one, I16.flat, Hd.flat]) only [brun_a, ↓brun_b, envOf, reduceIte, Nat.reduceEqDiff, Nat.reduceAdd, Nat.reduceSub, Nat.reduceMul, Nat.reduceBEq, Nat.reduceLeDiff, Nat.reduceLT, beq_self_eq_true, cond_true, cond_false, Int.reduceToNat]) ?_
  · exact I16.ent a
  · exact I16.ent b
  simp -dsimp (decide := true) (maxSteps := 1000000) (disch := first | omega | simp (decide := true) only [bdset_a, Hd.one, Hd.c_length, I16.c_length, I16.one, I16.flat, Hd.flat]) only [brun_a, ↓brun_b, envOf, reduceIte, Nat.reduceEqDiff, Nat.reduceAdd, Nat.reduceSub, Nat.reduceMul, Nat.reduceBEq, Nat.reduceLeDiff, Nat.reduceLT, beq_self_eq_true, cond_true, cond_false, Int.reduceToNat, tab.u2, tab.s2, tab.a2, tab.u3, tab.s3, tab.a3, tab.u5, tab.s5, tab.a5, tab.u23, tab.s23, tab.a23, tab.u24, tab.s24, tab.u26, tab.s26, tab.a26, tab.u28, tab.s28, tab.a28, tab.u30, tab.s30, tab.u36, tab.s36, tab.a36, tab.f26x0, tab.f26x1, tab.f26x2, tab.f28x0, tab.f28x1, tab.f28x2, I16.part, Hd.part_id, Hd.part_n, Hd.part_far, Hd.part, Hd.c_length, I16.c_length]
  refine Sem.go (k := 1000) ?_
  simp -dsimp (decide := true) (maxSteps := 1000000) (disch := first | omega | simp (decide := true) only [bdset_a, Hd.one, Hd.c_length, I16.c_length, I16.one, I16.flat, Hd.flat]) only [brun_a, ↓brun_b, envOf, reduceIte, Nat.reduceEqDiff, Nat.reduceAdd, Nat.reduceSub, Nat.reduceMul, Nat.reduceBEq, Nat.reduceLeDiff, Nat.reduceLT, beq_self_eq_true, cond_true, cond_false, Int.reduceToNat, tab.u2, tab.s2, tab.a2, tab.u3, tab.s3, tab.a3, tab.u5, tab.s5, tab.a5, tab.u23, tab.s23, tab.a23, tab.u24, tab.s24, tab.u26, tab.s26, tab.a26, tab.u28, tab.s28, tab.a28, tab.u30, tab.s30, tab.u36, tab.s36, tab.a36, tab.f26x0, tab.f26x1, tab.f26x2, tab.f28x0, tab.f28x1, tab.f28x2, I16.part, Hd.part_id, Hd.part_n, Hd.part_far, Hd.part, Hd.c_length, I16.c_length]
  exact SQ.ans rfl ⟨trivial, trivial⟩ rfl rfl (fun _ => rfl)
end Go.Proofs
