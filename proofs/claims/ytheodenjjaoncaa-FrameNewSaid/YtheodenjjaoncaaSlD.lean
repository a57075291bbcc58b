/- Contracts of functions that the laws reach, on abstract values, and what they need: no conditions but those that each theorem states. -/
import Derived.Test.YtheodenjjaoncaaSlC
import Derived.Laws.Small
import Derived.Laws.StructEq
import Derived.Laws.Slices
import Derived.Laws.BytesString
import Derived.Laws.IdiomStrings
import Derived.Lib.ConvBytes
set_option linter.unusedVariables false
set_option linter.unusedSimpArgs false
set_option linter.defProp false
namespace Go.SL
open Go
set_option linter.unusedVariables false
set_option linter.unusedSimpArgs false
section
variable {P : Program} {ρ : Operand → Value} {w : World} {β : Bt} {N : Nat} {get : Nat → Option SK}
variable {dst : Option Tmp} {ty : TypeId} {pos : String} {af : Array Edge} {g : Option (Nat × Bool)}
theorem int_beq (a b : Int) : (a == b) = decide (a = b) := by rw [Bool.eq_iff_iff]; simp
theorem bytes_eq (a b : ByteArray) : (a.toList == b.toList) = decide (a = b) := by
  rw [Bool.eq_iff_iff]
  simp only [beq_iff_eq, decide_eq_true_eq]
  constructor
  · intro h'
    rw [ByteArray.toList_eq, ByteArray.toList_eq] at h'
    cases a; cases b
    simp at h'
    simp [h']
  · intro h; rw [h]
theorem sInt_run {op : BinOp} {k : IntKind} {a b : Int} {r : SO} {t : TypeId} (h : sInt op k a b = some r) (ho : r.ob) : ∃ y, (∀ w, (binOp op t (.int k a) (.int k b)).run P w = .ok y w) ∧ RelV β r.val y ∧ r.chg = {} := by
  cases op <;> simp only [sInt, Option.some.injEq, reduceCtorEq] at h <;> (subst h) <;> refine ⟨_, fun w => ?_, rfl, rfl⟩
  case quo => simp only at ho; simp [binOp, Op.intDiv, ho]
  case rem => simp only at ho; simp [binOp, Op.intDiv, ho]
  all_goals simp [binOp, Op.intArith, Op.intBits, Op.intCmp, ibits, bne, int_beq]
theorem sInt2_run {op : BinOp} {k k' : IntKind} {a b : Int} {r : SO} {t : TypeId} (h : sInt2 op k a k' b = some r) (ho : r.ob) : ∃ y, (∀ w, (binOp op t (.int k a) (.int k' b)).run P w = .ok y w) ∧ RelV β r.val y ∧ r.chg = {} := by
  unfold sInt2 at h
  split at h
  · cases h
    simp only at ho
    refine ⟨_, fun w => ?_, rfl, rfl⟩
    have : ¬ b < 0 := by omega
    simp [binOp, Op.shift, this]
  · cases h
    simp only at ho
    refine ⟨_, fun w => ?_, rfl, rfl⟩
    have : ¬ b < 0 := by omega
    simp [binOp, Op.shift, this]
  · split at h
    · rename_i e
      subst e
      exact sInt_run h ho
    · cases h
theorem guard_scalar (op : BinOp) (t : TypeId) (x y : Operand) (a b : Value) (h : ∀ xs, a ≠ .agg xs) (h' : a ≠ .nilIface ∨ b ≠ .nilIface) : (eqGuard op t x y a b).run P w = .ok () w := by
  have key : ∀ op, op = BinOp.eql ∨ op = BinOp.neq → (eqGuard op t x y a b).run P w = .ok () w := by
    intro op hop
    unfold eqGuard
    rcases hop with rfl | rfl
    all_goals
      simp only [Bool.not_true, Bool.false_eq_true, if_false]
      split
      · simp at h'
      · exact absurd rfl (h _)
      · simp
  cases op <;> first | exact key _ (.inl rfl) | exact key _ (.inr rfl) | (simp [eqGuard])
theorem eqRes_run {op : BinOp} {t : TypeId} {x y : Value} {b : Bool} {ob : Prop} {r : SO} (he : ∀ w, (Op.equal t x y).run P w = .ok b w)
    (h1 : binOp .eql t x y = (do let r ← Op.equal t x y; pure (.bool r))) (h2 : binOp .neq t x y = (do let r ← Op.equal t x y; pure (.bool (!r)))) (h : sEqRes op b ob = some r) :
    ∃ v, (∀ w, (binOp op t x y).run P w = .ok v w) ∧ RelV β r.val v ∧ r.chg = {} ∧ (r.ob → ob) := by
  cases op <;> simp only [sEqRes, Option.some.injEq, reduceCtorEq] at h <;> (subst h)
  · exact ⟨.bool b, fun w => by rw [h1]; simp only [Sem.run_bind, he w, Result.andThen_ok, Sem.run_pure], rfl, rfl, id⟩
  · exact ⟨.bool (!b), fun w => by rw [h2]; simp only [Sem.run_bind, he w, Result.andThen_ok, Sem.run_pure], rfl, rfl, id⟩
theorem equal_bool {t : TypeId} (h : P.underlying t = some .bool) (a b : Bool) : (Op.equal t (.bool a) (.bool b)).run P w = .ok (a == b) w := run_equalIn_bool' w 9999 t a b h
theorem equalIn_ptr_nil {t e : TypeId} (d : Nat) (h : P.underlying t = some (.pointer e)) (a : Addr) : (Op.equalIn (d + 1) t (.pointer (some a)) (.pointer none)).run P w = .ok false w := by
  simp only [Op.equalIn, Sem.run_bind, run_underlying h, Result.andThen_ok, Sem.run_pure]
theorem equalIn_nil_ptr {t e : TypeId} (d : Nat) (h : P.underlying t = some (.pointer e)) (a : Option Addr) : (Op.equalIn (d + 1) t (.pointer none) (.pointer a)).run P w = .ok a.isNone w := by
  simp only [Op.equalIn, Sem.run_bind, run_underlying h, Result.andThen_ok, Sem.run_pure]
theorem equalIn_ifc_nil {t : TypeId} {ms : Array (String × TypeId)} (d : Nat) (h : P.underlying t = some (.interface ms)) (u : TypeId) (v : Value) : (Op.equalIn (d + 1) t (.iface u v) .nilIface).run P w = .ok false w := by
  simp only [Op.equalIn, Sem.run_bind, run_underlying h, Result.andThen_ok, Sem.run_pure]
theorem equalIn_nil_ifc {t : TypeId} {ms : Array (String × TypeId)} (d : Nat) (h : P.underlying t = some (.interface ms)) (u : TypeId) (v : Value) : (Op.equalIn (d + 1) t .nilIface (.iface u v)).run P w = .ok false w := by
  simp only [Op.equalIn, Sem.run_bind, run_underlying h, Result.andThen_ok, Sem.run_pure]
theorem equalIn_fn_nil {t : TypeId} {a b : Array TypeId} {c : Bool} (d : Nat) (h : P.underlying t = some (.func a b c)) (f : Fn) (u v : Array Value) : (Op.equalIn (d + 1) t (.func f u v) .nilFunc).run P w = .ok false w := by
  simp only [Op.equalIn, Sem.run_bind, run_underlying h, Result.andThen_ok, Sem.run_pure]
theorem equal_ptr_nil {t e : TypeId} (h : P.underlying t = some (.pointer e)) (a : Addr) : (Op.equal t (.pointer (some a)) (.pointer none)).run P w = .ok false w := equalIn_ptr_nil 9999 h a
theorem equal_nil_ptr {t e : TypeId} (h : P.underlying t = some (.pointer e)) (a : Option Addr) : (Op.equal t (.pointer none) (.pointer a)).run P w = .ok a.isNone w := equalIn_nil_ptr 9999 h a
theorem equal_ifc_nil {t : TypeId} {ms : Array (String × TypeId)} (h : P.underlying t = some (.interface ms)) (u : TypeId) (v : Value) : (Op.equal t (.iface u v) .nilIface).run P w = .ok false w := equalIn_ifc_nil 9999 h u v
theorem equal_nil_ifc {t : TypeId} {ms : Array (String × TypeId)} (h : P.underlying t = some (.interface ms)) (u : TypeId) (v : Value) : (Op.equal t .nilIface (.iface u v)).run P w = .ok false w := equalIn_nil_ifc 9999 h u v
theorem equal_fn_nil {t : TypeId} {a b : Array TypeId} {c : Bool} (h : P.underlying t = some (.func a b c)) (f : Fn) (u v : Array Value) : (Op.equal t (.func f u v) .nilFunc).run P w = .ok false w := equalIn_fn_nil 9999 h f u v
theorem nilEq_run {op : BinOp} {t : TypeId} {x y : Operand} {sx sy : SV} {b : Bool} {r : SO} (hx : RelV β sx (ρ x)) (hy : RelV β sy (ρ y)) (hb : nilEq P t sx sy = some b) (h : sEqRes op b True = some r) :
    ∃ v, (∀ w, (eqGuard op t x y (ρ x) (ρ y)).run P w = .ok () w) ∧ (∀ w, (binOp op t (ρ x) (ρ y)).run P w = .ok v w) ∧ RelV β r.val v ∧ r.chg = {} := by
  unfold nilEq at hb
  split at hb
  case h_1 hu =>
    cases hb
    obtain ⟨p, _, hx⟩ := hx
    obtain hy : ρ y = _ := hy
    rw [hx, hy]
    obtain ⟨v, h1, h2, h3, _⟩ := eqRes_run (β := β) (fun w => equal_ptr_nil hu _) rfl rfl h
    exact ⟨v, fun w => guard_scalar _ _ _ _ _ _ (by simp) (.inl (by simp)), h1, h2, h3⟩
  case h_2 hu =>
    cases hb
    obtain ⟨p, _, hy⟩ := hy
    obtain hx : ρ x = _ := hx
    rw [hx, hy]
    obtain ⟨v, h1, h2, h3, _⟩ := eqRes_run (β := β) (fun w => equal_nil_ptr hu (some _)) rfl rfl h
    exact ⟨v, fun w => guard_scalar _ _ _ _ _ _ (by simp) (.inl (by simp)), h1, h2, h3⟩
  case h_3 hu =>
    cases hb
    obtain hx : ρ x = _ := hx
    obtain hy : ρ y = _ := hy
    rw [hx, hy]
    obtain ⟨v, h1, h2, h3, _⟩ := eqRes_run (β := β) (fun w => equal_nil_ptr hu none) rfl rfl h
    exact ⟨v, fun w => guard_scalar _ _ _ _ _ _ (by simp) (.inl (by simp)), h1, h2, h3⟩
  case h_4 hu =>
    cases hb
    obtain ⟨u, hx, _⟩ := hx
    obtain hy : ρ y = _ := hy
    rw [hx, hy]
    obtain ⟨v, h1, h2, h3, _⟩ := eqRes_run (β := β) (fun w => equal_ifc_nil hu _ _) rfl rfl h
    exact ⟨v, fun w => guard_scalar _ _ _ _ _ _ (by simp) (.inl (by simp)), h1, h2, h3⟩
  case h_5 hu =>
    cases hb
    obtain ⟨u, hy, _⟩ := hy
    obtain hx : ρ x = _ := hx
    rw [hx, hy]
    obtain ⟨v, h1, h2, h3, _⟩ := eqRes_run (β := β) (fun w => equal_nil_ifc hu _ _) rfl rfl h
    exact ⟨v, fun w => guard_scalar _ _ _ _ _ _ (by simp) (.inr (by simp)), h1, h2, h3⟩
  case h_6 hu =>
    cases hb
    obtain ⟨u, v, hx, _⟩ := hx
    obtain hy : ρ y = _ := hy
    rw [hx, hy]
    obtain ⟨v, h1, h2, h3, _⟩ := eqRes_run (β := β) (fun w => equal_fn_nil hu _ _ _) rfl rfl h
    exact ⟨v, fun w => guard_scalar _ _ _ _ _ _ (by simp) (.inl (by simp)), h1, h2, h3⟩
  case h_7 => cases hb
theorem sStr_run {op : BinOp} {t : TypeId} {a b : ByteArray} {r : SO} (h : sStr op a b = some r) (ho : r.ob) : ∃ v, (∀ w, (binOp op t (.string a) (.string b)).run P w = .ok v w) ∧ RelV β r.val v ∧ r.chg = {} := by
  cases op <;> simp only [sStr, Option.some.injEq, reduceCtorEq] at h <;> (subst h)
  case add =>
    simp only at ho
    refine ⟨.string (a ++ b), fun w => ?_, rfl, rfl⟩
    have hm : IntKind.i64.max = 9223372036854775807 := by decide
    have h0 : ¬ (((a.size + b.size : Nat) : Int) > 9223372036854775807) := by omega
    show (Op.stringOp .add a b).run P w = _
    simp only [Op.stringOp, hm, if_neg h0, Sem.run_pure]
  case eql =>
    refine ⟨.bool (decide (a = b)), fun w => ?_, rfl, rfl⟩
    show (Op.stringOp .eql a b).run P w = _
    simp only [Op.stringOp, bytes_eq, Sem.run_pure]
  case neq =>
    refine ⟨.bool (!decide (a = b)), fun w => ?_, rfl, rfl⟩
    show (Op.stringOp .neq a b).run P w = _
    simp only [Op.stringOp, bytes_eq, Sem.run_pure]
theorem sBin_run {op : BinOp} {t : TypeId} {x y : Operand} {sx sy : SV} (hx : RelV β sx (ρ x)) (hy : RelV β sy (ρ y)) {r : SO} (h : sBin P op t sx sy = some r) (ho : r.ob) :
    ∃ v, (∀ w, (eqGuard op t x y (ρ x) (ρ y)).run P w = .ok () w) ∧ (∀ w, (binOp op t (ρ x) (ρ y)).run P w = .ok v w) ∧ RelV β r.val v ∧ r.chg = {} := by
  unfold sBin at h
  split at h
  · obtain hx : ρ x = _ := hx
    obtain hy : ρ y = _ := hy
    rw [hx, hy]
    obtain ⟨v, h1, h2, h3⟩ := sInt2_run (P := P) (β := β) (t := t) h ho
    exact ⟨v, fun w => guard_scalar _ _ _ _ _ _ (by simp) (.inl (by simp)), h1, h2, h3⟩
  · obtain hx : ρ x = _ := hx
    obtain hy : ρ y = _ := hy
    rw [hx, hy]
    obtain ⟨v, h1, h2, h3⟩ := sStr_run (P := P) (β := β) (t := t) h ho
    exact ⟨v, fun w => guard_scalar _ _ _ _ _ _ (by simp) (.inl (by simp)), h1, h2, h3⟩
  · rename_i a b
    obtain hx : ρ x = _ := hx
    obtain hy : ρ y = _ := hy
    rw [hx, hy]
    split at h
    · rename_i hu
      obtain ⟨v, h1, h2, h3, _⟩ := eqRes_run (β := β) (fun w => equal_bool hu a b) rfl rfl h
      exact ⟨v, fun w => guard_scalar _ _ _ _ _ _ (by simp) (.inl (by simp)), h1, h2, h3⟩
    · cases h
  · rename_i la lb
    obtain ⟨cs, hx, hxr⟩ := hx
    obtain ⟨ds, hy, hyr⟩ := hy
    rw [hx, hy]
    split at h
    · rename_i b hb
      have hflat : FlatEq P t la lb := by
        cases op <;> simp only [sEqRes, Option.some.injEq, reduceCtorEq] at h <;> (subst h) <;> exact ho
      obtain ⟨v, h1, h2, h3, _⟩ := eqRes_run (P := P) (β := β) (fun w => hflat.2 β w cs ds b hxr hyr hb) rfl rfl h
      exact ⟨v, fun w => run_eqGuard_agg (P := P) w op t x y cs ds hflat.1, h1, h2, h3⟩
    · cases h
  · split at h
    · rename_i b hb
      exact nilEq_run hx hy hb h
    · cases h
theorem does_bin {op : BinOp} {t t2 : TypeId} {x y : Operand} {sx sy : SV} (hx : RelV β sx (ρ x)) (hy : RelV β sy (ρ y)) {r : SO} (h : sBin P op t sx sy = some r) (ho : r.ob) : Does P ⟨dst, .binOp op t x y t2, ty, pos, af, g⟩ ρ w β N get r := by
  obtain ⟨v, h1, h2, h3, h4⟩ := sBin_run hx hy h ho
  obtain ⟨rv, rc, ro⟩ := r
  simp only at h4
  subst h4
  refine Does.quiet (y := v) (fun w1 _ => ?_) h3
  simp only [execOp, Sem.run_bind, h1, h2, Result.andThen_ok, Sem.run_pure]
theorem does_un {op : UnOp} {t : TypeId} {x : Operand} {sx : SV} (hx : RelV β sx (ρ x)) {r : SO} (h : sUn op sx = some r) : Does P ⟨dst, .unOp op t x, ty, pos, af, g⟩ ρ w β N get r := by
  unfold sUn at h
  split at h
  · obtain hx : ρ x = _ := hx
    cases h
    exact Does.quiet (y := .bool _) (fun w1 _ => by simp [execOp, hx, Op.unary]) rfl
  · obtain hx : ρ x = _ := hx
    cases h
    exact Does.quiet (y := .int _ _) (fun w1 _ => by simp [execOp, hx, Op.unary, Op.intArith]) rfl
  · cases h
end
end Go.SL
