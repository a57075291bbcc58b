/- Contracts of functions that the laws reach, on abstract values, and what they need: no conditions but those that each theorem states. -/
import Derived.Test.YtheodenjjaoncaaSlR
import Derived.Lib.BytesEntry
import Derived.Lib.Bytealg
set_option linter.unusedVariables false
set_option linter.unusedSimpArgs false
set_option linter.defProp false
namespace Go.SL
open Go
set_option linter.unusedSimpArgs false
structure I16 where
  l : List Int
  len : l.length = 16
  rng : ∀ x ∈ l, 0 ≤ x ∧ x < 256
def I16.c (x : I16) : List SV := x.l.map fun n => .v (.int .u8 n)
def I16.at (x : I16) (i : Nat) : Int := x.l.getD i 0
theorem I16.c_length (x : I16) : x.c.length = 16 := by simp [I16.c, x.len]
theorem I16.one (x : I16) : x.c.all SV.one = true := by simp [I16.c, SV.one, Value.oneCell']
theorem cellAt_map (l : List Int) : ∀ (i : Nat), i < l.length → cellAt (l.map fun n => SV.v (.int .u8 n)) i = .v (.int .u8 (l.getD i 0)) := by
  induction l with
  | nil => intro i h; simp at h
  | cons x l ih =>
    intro i h
    cases i with
    | zero => rfl
    | succ i => simpa [cellAt] using ih i (by simpa using h)
theorem I16.cell (x : I16) (i : Nat) (h : i < 16) : cellAt x.c i = .v (.int .u8 (x.at i)) := cellAt_map x.l i (by rw [x.len]; exact h)
theorem I16.part (x : I16) : spart true x.c 0 16 = .agg x.c := by simp [spart, List.take_of_length_le, I16.c_length]
theorem I16.flat (x : I16) : SV.flatL x.c = true := flatL_of _ fun y hy => by
  obtain ⟨n, _, rfl⟩ := List.mem_map.1 hy
  rfl
theorem I16.ent {fz : Nat → Option SB} {ρ : Nat → Nat} (x : I16) : EntL fz ρ x.c x.c := EntL.self x.flat
def num (l : List Int) : Int := l.foldl (fun h x => h * 256 + x) 0
def I16.hi (x : I16) : Int := num (x.l.take 8)
def I16.lo (x : I16) : Int := num (x.l.drop 8)
theorem wrap_u64 (x : Int) (h : 0 ≤ x ∧ x < 18446744073709551616) : IntKind.u64.wrap x = x := by
  unfold IntKind.wrap
  simp [IntKind.bits, IntKind.signed]
  omega
theorem wrap_i64 (x : Int) (h : -9223372036854775808 ≤ x ∧ x < 9223372036854775808) : IntKind.i64.wrap x = x := by
  unfold IntKind.wrap
  simp [IntKind.bits, IntKind.signed]
  omega
end Go.SL
namespace Go.Proofs
open Go Go.SL
set_option linter.unusedSimpArgs false
set_option linter.unusedVariables false
end Go.Proofs
namespace Go.SL
open Go
section
variable {P : Program} {w : World} {β : Bt}
end
end Go.SL
namespace Go.Proofs
open Go Go.SL
end Go.Proofs
namespace Go.Proofs
open Go Go.SL
set_option maxRecDepth 100000
theorem cellsEq_ints (l m : List Int) (h : l.length = m.length) : cellsEq (l.map fun x => SV.v (.int .u8 x)) (m.map fun x => SV.v (.int .u8 x)) = some (decide (l = m)) := by
  induction l generalizing m with
  | nil => cases m with
    | nil => rfl
    | cons y m => simp at h
  | cons x l ih => cases m with
    | nil => simp at h
    | cons y m =>
      simp only [List.map_cons, cellsEq, cellEq, if_true, ih m (by simpa using h)]
      simp
theorem I16.cellsEq (a b : I16) : cellsEq a.c b.c = some (decide (a.l = b.l)) := cellsEq_ints _ _ (by rw [a.len, b.len])
theorem all_range (l m : List Int) : ∀ (n : Nat), l.length = n → m.length = n → (List.range n).all (fun i => decide (l.getD i 0 = m.getD i 0)) = decide (l = m) := by
  intro n hl hm
  rw [Bool.eq_iff_iff, List.all_eq_true, decide_eq_true_eq]
  constructor
  · intro h
    refine List.ext_getElem (by omega) fun i h1 h2 => ?_
    have := h i (by simpa using by omega)
    simpa [h1, h2] using this
  · rintro rfl i _
    simp
theorem eqv23 (d : Nat) (a b : I16) : EqV Try.prog (d + 2) 23 (.agg a.c) (.agg b.c) (decide (a.l = b.l)) := by
  rw [← all_range a.l b.l 16 a.len b.len]
  refine EqV.array tab.u23 tab.s5 tab.a5 (fun _ => rfl) _ fun i hi => ⟨by rw [I16.c_length]; omega, by rw [I16.c_length]; omega, ?_⟩
  rw [Nat.mul_one]
  simp only [spart, Bool.false_eq_true, if_false, I16.cell _ i hi]
  exact EqV.int tab.u5
theorem flat23 (a b : I16) : FlatEq Try.prog 23 a.c b.c := EqV.flat (by kernel_rfl) (eqv23 9998 a b) (I16.cellsEq a b)
def nth (x : Int) (h : 0 ≤ x ∧ x < 256) : I16 := ⟨[0, 0, 0, 0, 0, 0, 0, 0, 0, 0, 0, 0, 0, 0, 0, x], rfl, by
  intro y hy
  simp only [List.mem_cons, List.mem_nil_iff, or_false] at hy
  omega⟩
def I16.zero : I16 := ⟨[0, 0, 0, 0, 0, 0, 0, 0, 0, 0, 0, 0, 0, 0, 0, 0], rfl, by decide⟩
end Go.Proofs
namespace Go.SL
open Go
structure FC where
  kind : SV
  who : I16
  pn : SV
  toA : SV
  a : I16
  b : I16
  n : SV
  fi : SV
  fn : SV
  ti : SV
  tn : SV
  tr : SV
  is : SV
  key : I16
  vn : SV
  vwho : I16
  val : SV
  op : SV
  ttl : SV
  tx : SV
theorem flatL_app : ∀ (l m : List SV), SV.flatL (l ++ m) = (SV.flatL l && SV.flatL m)
  | [], m => by simp [flatL_nil]
  | x :: l, m => by simp [flatL_cons, flatL_app l m, Bool.and_assoc]
def FC.c (x : FC) : List SV := x.kind :: (x.who.c ++ (x.pn :: x.toA :: (x.a.c ++ (x.b.c ++ (x.n :: x.fi :: x.fn :: x.ti :: x.tn :: x.tr :: x.is :: (x.key.c ++ (x.vn :: (x.vwho.c ++ [x.val, x.op, x.ttl, x.tx]))))))))
theorem FC.c_length (x : FC) : x.c.length = 95 := by simp [FC.c, I16.c_length]
theorem FC.at_kind (x : FC) : cellAt x.c 0 = x.kind := cellAt_get _ _ _ (by simp [FC.c, I16.c_length])
theorem FC.at_pn (x : FC) : cellAt x.c 17 = x.pn := cellAt_get _ _ _ (by simp [FC.c, I16.c_length])
theorem FC.at_toA (x : FC) : cellAt x.c 18 = x.toA := cellAt_get _ _ _ (by simp [FC.c, I16.c_length])
theorem FC.at_n (x : FC) : cellAt x.c 51 = x.n := cellAt_get _ _ _ (by simp [FC.c, I16.c_length])
theorem FC.at_fi (x : FC) : cellAt x.c 52 = x.fi := cellAt_get _ _ _ (by simp [FC.c, I16.c_length])
theorem FC.at_fn (x : FC) : cellAt x.c 53 = x.fn := cellAt_get _ _ _ (by simp [FC.c, I16.c_length])
theorem FC.at_ti (x : FC) : cellAt x.c 54 = x.ti := cellAt_get _ _ _ (by simp [FC.c, I16.c_length])
theorem FC.at_tn (x : FC) : cellAt x.c 55 = x.tn := cellAt_get _ _ _ (by simp [FC.c, I16.c_length])
theorem FC.at_tr (x : FC) : cellAt x.c 56 = x.tr := cellAt_get _ _ _ (by simp [FC.c, I16.c_length])
theorem FC.at_is (x : FC) : cellAt x.c 57 = x.is := cellAt_get _ _ _ (by simp [FC.c, I16.c_length])
theorem FC.at_vn (x : FC) : cellAt x.c 74 = x.vn := cellAt_get _ _ _ (by simp [FC.c, I16.c_length])
theorem FC.at_val (x : FC) : cellAt x.c 91 = x.val := cellAt_get _ _ _ (by simp [FC.c, I16.c_length])
theorem FC.at_op (x : FC) : cellAt x.c 92 = x.op := cellAt_get _ _ _ (by simp [FC.c, I16.c_length])
theorem FC.at_ttl (x : FC) : cellAt x.c 93 = x.ttl := cellAt_get _ _ _ (by simp [FC.c, I16.c_length])
theorem FC.at_tx (x : FC) : cellAt x.c 94 = x.tx := cellAt_get _ _ _ (by simp [FC.c, I16.c_length])
theorem FC.part_a (x : FC) : spart true x.c 19 16 = .agg x.a.c := by simp [spart, FC.c, List.drop_append, I16.c_length, List.drop_of_length_le]
theorem FC.part_b (x : FC) : spart true x.c 35 16 = .agg x.b.c := by simp [spart, FC.c, List.drop_append, I16.c_length, List.drop_of_length_le]
theorem FC.part_key (x : FC) : spart true x.c 58 16 = .agg x.key.c := by simp [spart, FC.c, List.drop_append, I16.c_length, List.drop_of_length_le]
theorem FC.part_vwho (x : FC) : spart true x.c 75 16 = .agg x.vwho.c := by simp [spart, FC.c, List.drop_append, I16.c_length, List.drop_of_length_le]
theorem FC.part_P (x : FC) : spart true x.c 1 17 = .agg (x.who.c ++ [x.pn]) := by simp [spart, FC.c, List.drop_append, List.take_append, I16.c_length, List.take_of_length_le]
theorem FC.part_from (x : FC) : spart true x.c 52 2 = .agg [x.fi, x.fn] := by simp [spart, FC.c, List.drop_append, I16.c_length, List.drop_of_length_le]
theorem FC.part_to (x : FC) : spart true x.c 54 2 = .agg [x.ti, x.tn] := by simp [spart, FC.c, List.drop_append, I16.c_length, List.drop_of_length_le]
theorem FC.part_ver (x : FC) : spart true x.c 74 17 = .agg (x.vn :: x.vwho.c) := by simp [spart, FC.c, List.drop_append, I16.c_length, List.drop_of_length_le]
theorem FC.part_item (x : FC) : spart true x.c 58 34 = .agg (x.key.c ++ (x.vn :: (x.vwho.c ++ [x.val]))) := by simp [spart, FC.c, List.drop_append, List.take_append, I16.c_length, List.take_of_length_le, List.drop_of_length_le]
theorem FC.part (x : FC) : spart true x.c 0 95 = .agg x.c := by simp [spart, List.take_of_length_le, FC.c_length]
theorem FC.set_kind (x : FC) (v : SV) : splice x.c 0 [v] = FC.c { x with kind := v } := by simp [splice, FC.c, List.drop_append, I16.c_length]
theorem FC.set_toA (x : FC) (v : SV) : splice x.c 18 [v] = FC.c { x with toA := v } := by simp [splice, FC.c, List.drop_append, List.take_append, I16.c_length, List.take_of_length_le, List.drop_of_length_le]
theorem FC.set_n (x : FC) (v : SV) : splice x.c 51 [v] = FC.c { x with n := v } := by simp [splice, FC.c, List.drop_append, List.take_append, I16.c_length, List.take_of_length_le, List.drop_of_length_le]
theorem FC.set_tr (x : FC) (v : SV) : splice x.c 56 [v] = FC.c { x with tr := v } := by simp [splice, FC.c, List.drop_append, List.take_append, I16.c_length, List.take_of_length_le, List.drop_of_length_le]
theorem FC.set_is (x : FC) (v : SV) : splice x.c 57 [v] = FC.c { x with is := v } := by simp [splice, FC.c, List.drop_append, List.take_append, I16.c_length, List.take_of_length_le, List.drop_of_length_le]
theorem FC.set_val (x : FC) (v : SV) : splice x.c 91 [v] = FC.c { x with val := v } := by simp [splice, FC.c, List.drop_append, List.take_append, I16.c_length, List.take_of_length_le, List.drop_of_length_le]
theorem FC.set_op (x : FC) (v : SV) : splice x.c 92 [v] = FC.c { x with op := v } := by simp [splice, FC.c, List.drop_append, List.take_append, I16.c_length, List.take_of_length_le, List.drop_of_length_le]
theorem FC.set_ttl (x : FC) (v : SV) : splice x.c 93 [v] = FC.c { x with ttl := v } := by simp [splice, FC.c, List.drop_append, List.take_append, I16.c_length, List.take_of_length_le, List.drop_of_length_le]
theorem FC.set_tx (x : FC) (v : SV) : splice x.c 94 [v] = FC.c { x with tx := v } := by simp [splice, FC.c, List.take_append, I16.c_length, List.take_of_length_le, List.drop_of_length_le]
theorem FC.set_a (x : FC) (v : I16) : splice x.c 19 v.c = FC.c { x with a := v } := by simp [splice, FC.c, List.drop_append, List.take_append, I16.c_length, List.take_of_length_le, List.drop_of_length_le]
theorem FC.set_b (x : FC) (v : I16) : splice x.c 35 v.c = FC.c { x with b := v } := by simp [splice, FC.c, List.drop_append, List.take_append, I16.c_length, List.take_of_length_le, List.drop_of_length_le]
theorem FC.set_key (x : FC) (v : I16) : splice x.c 58 v.c = FC.c { x with key := v } := by simp [splice, FC.c, List.drop_append, List.take_append, I16.c_length, List.take_of_length_le, List.drop_of_length_le]
theorem FC.set_P (x : FC) (u : I16) (v : SV) : splice x.c 1 (u.c ++ [v]) = FC.c { x with who := u, pn := v } := by simp [splice, FC.c, List.drop_append, List.take_append, I16.c_length, List.drop_of_length_le]
theorem FC.set_from (x : FC) (u v : SV) : splice x.c 52 [u, v] = FC.c { x with fi := u, fn := v } := by simp [splice, FC.c, List.drop_append, List.take_append, I16.c_length, List.take_of_length_le, List.drop_of_length_le]
theorem FC.set_to (x : FC) (u v : SV) : splice x.c 54 [u, v] = FC.c { x with ti := u, tn := v } := by simp [splice, FC.c, List.drop_append, List.take_append, I16.c_length, List.take_of_length_le, List.drop_of_length_le]
theorem FC.set_ver (x : FC) (u : SV) (v : I16) : splice x.c 74 (u :: v.c) = FC.c { x with vn := u, vwho := v } := by simp [splice, FC.c, List.drop_append, List.take_append, I16.c_length, List.take_of_length_le, List.drop_of_length_le]
theorem FC.set_item (x : FC) (k : I16) (u : SV) (v : I16) (t : SV) : splice x.c 58 (k.c ++ (u :: (v.c ++ [t]))) = FC.c { x with key := k, vn := u, vwho := v, val := t } := by simp [splice, FC.c, List.drop_append, List.take_append, I16.c_length, List.take_of_length_le, List.drop_of_length_le]
theorem FC.set_all (x y : FC) : splice x.c 0 y.c = y.c := splice_all _ _ (by rw [FC.c_length, FC.c_length])
theorem FC.one (x : FC) (h : ([x.kind, x.pn, x.toA, x.n, x.fi, x.fn, x.ti, x.tn, x.tr, x.is, x.vn, x.val, x.op, x.ttl, x.tx].all SV.one) = true) : x.c.all SV.one = true := by
  simp only [List.all_cons, List.all_nil, Bool.and_true, Bool.and_eq_true] at h
  simp [FC.c, List.all_append, I16.one, h]
theorem FC.flat (x : FC) (h : SV.flatL [x.kind, x.pn, x.toA, x.n, x.fi, x.fn, x.ti, x.tn, x.tr, x.is, x.vn, x.val, x.op, x.ttl, x.tx] = true) : SV.flatL x.c = true := by
  simp only [flatL_cons, flatL_nil, Bool.and_true, Bool.and_eq_true] at h
  simp [FC.c, flatL_cons, flatL_app, I16.flat, flatL_nil, h]
end Go.SL
