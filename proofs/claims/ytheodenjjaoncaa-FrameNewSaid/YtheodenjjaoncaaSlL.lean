/- Contracts of functions that the laws reach, on abstract values, and what they need: no conditions but those that each theorem states. -/
import Derived.Test.YtheodenjjaoncaaSlK
set_option linter.unusedVariables false
set_option linter.unusedSimpArgs false
set_option linter.defProp false
namespace Go.SL
open Go
set_option linter.unusedVariables false
section
variable {P : Program} {Q : SX → St → Prop} {k : Nat} {K : List It} {s : St} {f : List It → St → Prop} {all rest : List Oper}
theorem sw_nil : sw P Q (k + 1) [] s = Q .normal s := Eq.trans rfl rfl
theorem sw_blk (id : Nat) : sw P Q (k + 1) (.blk id :: K) s = sw P Q k K s := Eq.trans rfl rfl
theorem sw_inv (J : St → Prop) : sw P Q (k + 1) (.inv J :: K) s = J s := Eq.trans rfl rfl
theorem sw_skip : sw P Q (k + 1) (.code .skip :: K) s = sw P Q k K s := Eq.trans rfl rfl
theorem sw_label (l : Nat) : sw P Q (k + 1) (.code (.label l) :: K) s = sw P Q k K s := Eq.trans rfl rfl
theorem sw_seq (a b : Code) : sw P Q (k + 1) (.code (.seq a b) :: K) s = sw P Q k (.code a :: .code b :: K) s := Eq.trans rfl rfl
def scond (P : Program) (Q : SX → St → Prop) (f : List It → St → Prop) (v : SV) (a b : Code) (K : List It) (s : St) : Prop :=
  match v with
  | .v (.bool x) => SCond P Q f x a b K s
  | _ => False
theorem sw_cond (c : Operand) (a b : Code) : sw P Q (k + 1) (.code (.cond c a b) :: K) s = scond P Q (sw P Q k) (seval s.env c) a b K s := Eq.trans rfl rfl
theorem scond_bool (x : Bool) (a b : Code) : scond P Q f (.v (.bool x)) a b K s = SCond P Q f x a b K s := rfl
theorem SCond_true (a b : Code) : SCond P Q f true a b K s = f (.code a :: K) s := by simp [SCond]
theorem SCond_false (a b : Code) : SCond P Q f false a b K s = f (.code b :: K) s := by simp [SCond]
theorem SCond.split {x : Bool} {a b : Code} (h1 : x = true → f (.code a :: K) s) (h2 : x = false → f (.code b :: K) s) : SCond P Q f x a b K s := by
  unfold SCond
  cases x
  · exact h2 rfl
  · exact h1 rfl
theorem sw_block (id : Nat) (b : Code) : sw P Q (k + 1) (.code (.block id b) :: K) s = sw P Q k (.code b :: .blk id :: K) s := Eq.trans rfl rfl
def sexit (P : Program) (Q : SX → St → Prop) (f : List It → St → Prop) (id : Nat) (K : Option (List It)) (s : St) : Prop :=
  match K with
  | some K' => f K' s
  | none => Q (.exit id) s
theorem sw_exit (id : Nat) : sw P Q (k + 1) (.code (.exit id) :: K) s = sexit P Q (sw P Q k) id (sExit id K) s := Eq.trans rfl rfl
theorem sexit_some (id : Nat) : sexit P Q f id (some K) s = f K s := rfl
theorem sexit_none (id : Nat) : sexit P Q f id none s = Q (.exit id) s := rfl
theorem sExit_blk (id i : Nat) : sExit id (.blk i :: K) = if i = id then some K else sExit id K := Eq.trans rfl rfl
theorem sExit_code (id : Nat) (c : Code) : sExit id (.code c :: K) = sExit id K := Eq.trans rfl rfl
theorem sExit_inv (id : Nat) (J : St → Prop) : sExit id (.inv J :: K) = sExit id K := Eq.trans rfl rfl
theorem sExit_nil (id : Nat) : sExit id [] = none := Eq.trans rfl rfl
theorem sw_ret : sw P Q (k + 1) (.code .ret :: K) s = Q .ret s := Eq.trans rfl rfl
theorem sw_region (id : Nat) (ops : Array Oper) : sw P Q (k + 1) (.code (.region id ops false) :: K) s = swOps P Q (sw P Q k) ops.toList ops.toList K s := Eq.trans rfl rfl
theorem sw_draw (id : Nat) (ops : Array Oper) : sw P Q (k + 1) (.code (.region id ops true) :: K) s = Sem P Q (.code (.region id ops true) :: K) s := Eq.trans rfl rfl
theorem sw_loop (c : Code) : sw P Q (k + 1) (.code (.loop c) :: K) s = Sem P Q (.code (.loop c) :: K) s := Eq.trans rfl rfl
theorem swOps_nil : swOps P Q f all [] K s = f K s := Eq.trans rfl rfl
theorem swOps_cons (o : Oper) : swOps P Q f all (o :: rest) K s = obind (sWant all s.env o) (fun b => SIf b
      (obind (sop P s.L.length (getL s.L) (seval s.env) o.op) (fun r => dstOk s o.dst ∧ r.ob ∧ swOps P Q f all rest K (s.step o.dst r)) (SemOps P Q all ({ o with guard := none } :: rest) K s) ⟨⟩)
      (dstOk s o.dst ∧ swOps P Q f all rest K (s.put o.dst (.v undef))) ⟨⟩) False ⟨⟩ := Eq.trans rfl rfl
variable {dst : Option Tmp} {op : Op} {ty : TypeId} {pos : String} {af : Array Edge} {env : List (Nat × SV)}
theorem sWant_none : sWant all env ⟨dst, op, ty, pos, af, none⟩ = some true := rfl
def swant2 (d : Option Tmp) (env : List (Nat × SV)) (want : Bool) : Option Bool :=
  match d with
  | some d => match lookup env d with
    | .v (.bool x) => some (x == want)
    | .v (.tuple _) => some false
    | _ => none
  | none => none
def swant3 (v : SV) (want : Bool) : Option Bool :=
  match v with
  | .v (.bool x) => some (x == want)
  | .v (.tuple _) => some false
  | _ => none
theorem swant3_undef (want : Bool) : swant3 (.v undef) want = some false := rfl
theorem sWant_some (j : Nat) (want : Bool) : sWant all env ⟨dst, op, ty, pos, af, some (j, want)⟩ = swant2 ((all[j]?).bind (·.dst)) env want := rfl
theorem swant2_some (d : Tmp) (want : Bool) : swant2 (some d) env want = swant3 (lookup env d) want := rfl
theorem swant3_true (x : Bool) : swant3 (.v (.bool x)) true = some x := by cases x <;> rfl
theorem swant3_false (x : Bool) : swant3 (.v (.bool x)) false = some (!x) := by cases x <;> rfl
theorem SIf_not (x : Bool) (A B : Prop) (h : Hide2 A B) : SIf (!x) A B h = SIf x B A ⟨⟩ := by cases x <;> simp [SIf]
theorem SIf.split {x : Bool} {A B : Prop} {h : Hide2 A B} (h1 : x = true → A) (h2 : x = false → B) : SIf x A B h := by
  cases x
  · exact h2 rfl
  · exact h1 rfl
def lookup1 (b : Bool) (x : SV) (r : List (Nat × SV)) (m : Nat) : SV :=
  match b with
  | true => x
  | false => lookup r m
theorem lookup_cons (n m : Nat) (x : SV) (r : List (Nat × SV)) : lookup ((n, x) :: r) m = lookup1 (n == m) x r m := by
  by_cases h : n = m
  · subst h; simp [lookup, lookup1]
  · have h2 : (n == m) = false := by simpa using h
    rw [h2]
    simp [lookup, lookup1, h]
theorem lookup1_true (m : Nat) (x : SV) (r : List (Nat × SV)) : lookup1 true x r m = x := rfl
theorem lookup1_false (m : Nat) (x : SV) (r : List (Nat × SV)) : lookup1 false x r m = lookup r m := rfl
theorem lookup_nil (m : Nat) : lookup [] m = .any := rfl
theorem seval_tmp (t : Tmp) : seval env (.tmp t) = lookup env t := rfl
theorem seval_const (v : Value) : seval env (.const v) = .v v := rfl
theorem seval_global (g : Nat) : seval env (.global g) = .v (.pointer (some ⟨g, 0, none⟩)) := rfl
theorem seval_func (g : FuncId) : seval env (.func g) = .fn (.func g) [] [] := rfl
theorem put_some (sz base : Nat) (L : List (Option SK)) (d : Tmp) (x : SV) : St.put ⟨sz, base, env, L⟩ (some d) x = ⟨sz, base, (d, x) :: env, L⟩ := rfl
theorem put_none (x : SV) : St.put s none x = s := rfl
theorem step_some (sz base : Nat) (L : List (Option SK)) (d : Tmp) (v : SV) (c : Chg) (ob : Prop) : St.step ⟨sz, base, env, L⟩ (some d) ⟨v, c, ob⟩ = ⟨sz, base, (d, v) :: env, c.apply L⟩ := rfl
theorem step_none (sz base : Nat) (L : List (Option SK)) (v : SV) (c : Chg) (ob : Prop) : St.step ⟨sz, base, env, L⟩ none ⟨v, c, ob⟩ = ⟨sz, base, env, c.apply L⟩ := rfl
theorem apply_none (L : List (Option SK)) : Chg.apply ⟨none, none⟩ L = L := by simp [Chg.apply]
theorem apply_new (K : SK) (L : List (Option SK)) : Chg.apply ⟨none, some K⟩ L = L ++ [some K] := rfl
theorem apply_set (b : Nat) (K : Option SK) (L : List (Option SK)) : Chg.apply ⟨some (b, K), none⟩ L = L.set b K := by simp [Chg.apply]
theorem apply_both (b : Nat) (K : Option SK) (K' : SK) (L : List (Option SK)) : Chg.apply ⟨some (b, K), some K'⟩ L = L.set b K ++ [some K'] := rfl
theorem dstOk_some (d : Tmp) (sz base : Nat) (L : List (Option SK)) : dstOk ⟨sz, base, env, L⟩ (some d) = (d < sz) := propext ⟨fun h => h d rfl, fun h e he => by cases he; exact h⟩
theorem dstOk_none : dstOk s none = True := propext ⟨fun _ => trivial, fun _ e he => by cases he⟩
theorem getL_zero (x : Option SK) (L : List (Option SK)) : getL (x :: L) 0 = x := rfl
theorem getL_succ (x : Option SK) (L : List (Option SK)) (i : Nat) : getL (x :: L) (i + 1) = getL L i := by simp [getL]
variable {N : Nat} {get : Nat → Option SK} {ev : Operand → SV}
theorem sop_move (x : Operand) : sop P N get ev (.move x) = some ⟨ev x, {}, True⟩ := rfl
theorem sop_assign (x : Operand) : sop P N get ev (.assign x) = some ⟨ev x, {}, True⟩ := rfl
def spick (c a b : SV) : Option SO :=
  match c with
  | .v (.bool x) => some ⟨bif x then a else b, {}, True⟩
  | _ => none
theorem sop_pick (c a b : Operand) : sop P N get ev (.pick c a b) = spick (ev c) (ev a) (ev b) := rfl
theorem spick_true (a b : SV) : spick (.v (.bool true)) a b = some ⟨a, {}, True⟩ := rfl
theorem spick_false (a b : SV) : spick (.v (.bool false)) a b = some ⟨b, {}, True⟩ := rfl
theorem spick_bool (x y z : Bool) : spick (.v (.bool x)) (.v (.bool y)) (.v (.bool z)) = some ⟨.v (.bool (bif x then y else z)), {}, True⟩ := by cases x <;> rfl
theorem sop_alloc (t : TypeId) : sop P N get ev (.alloc t) = sAlloc P N t := rfl
theorem sop_box (t : TypeId) (x : Operand) : sop P N get ev (.box t x) = sBox N t (ev x) := rfl
theorem sop_build (t : TypeId) (parts : Array (Nat × Operand)) : sop P N get ev (.build t parts) = sBuild P t (parts.toList.map fun q => (q.1, ev q.2)) := rfl
theorem sop_buildSlice (t : TypeId) (n : Nat) (parts : Array (Nat × Operand)) : sop P N get ev (.buildSlice t n parts) = sBuildSlice P N t n (parts.toList.map fun q => (q.1, ev q.2)) := rfl
theorem sop_load (t : TypeId) (x : Operand) : sop P N get ev (.load t x) = sLoad P get t (ev x) := rfl
theorem sop_store (t : TypeId) (x y : Operand) : sop P N get ev (.store t x y) = sStore P get t (ev x) (ev y) := rfl
theorem sop_nilCheck (x : Operand) : sop P N get ev (.nilCheck x) = sNilCheck (ev x) := rfl
theorem sop_bin (op : BinOp) (t : TypeId) (x y : Operand) (u : TypeId) : sop P N get ev (.binOp op t x y u) = sBin P op t (ev x) (ev y) := rfl
theorem sop_un (op : UnOp) (t : TypeId) (x : Operand) : sop P N get ev (.unOp op t x) = sUn op (ev x) := rfl
theorem sop_convert (a b : TypeId) (x : Operand) : sop P N get ev (.convert a b x) = sConv P get a b (ev x) := rfl
theorem sop_slice (t : TypeId) (x : Operand) (lo hi : Option Operand) : sop P N get ev (.slice t x lo hi none) = sSlice P get t (ev x) (lo.map ev) (hi.map ev) := rfl
theorem sop_slice3 (t : TypeId) (x : Operand) (lo hi : Option Operand) (mx : Operand) : sop P N get ev (.slice t x lo hi (some mx)) = sSlice3 P t (ev x) (lo.map ev) (hi.map ev) (some (ev mx)) := rfl
theorem sop_fieldAddr (t : TypeId) (x : Operand) (i : Nat) : sop P N get ev (.fieldAddr t x i) = sFieldAddr P t (ev x) i := rfl
theorem sop_field (t : TypeId) (x : Operand) (i : Nat) : sop P N get ev (.field t x i) = sField P t (ev x) i := rfl
theorem sop_indexAddr (t : TypeId) (x i : Operand) : sop P N get ev (.indexAddr t x i) = sIndexAddr P get t (ev x) (ev i) := rfl
theorem sop_index (t : TypeId) (x i : Operand) : sop P N get ev (.index t x i) = sIndex P t (ev x) (ev i) := rfl
theorem sop_range (t : TypeId) (x : Operand) : sop P N get ev (.range t x) = sRange P N t (ev x) := rfl
theorem sop_next (x : Operand) (b : Bool) : sop P N get ev (.next x b) = sNext get (ev x) b := rfl
theorem sop_extract (x : Operand) (i : Nat) : sop P N get ev (.extract x i) = sExtract (ev x) i := rfl
theorem sop_makeInterface (t : TypeId) (x : Operand) : sop P N get ev (.makeInterface t x) = sMakeIface P t (ev x) := rfl
theorem sop_makeFunc (g : Fn) (a b : Array Operand) : sop P N get ev (.makeFunc g a b) = some ⟨.fn g (a.toList.map ev) (b.toList.map ev), {}, True⟩ := rfl
theorem sop_len (x : Operand) (t : TypeId) : sop P N get ev (.call ⟨.builtin .len, #[x], #[t]⟩) = sLen P t (ev x) := rfl
theorem sop_append (x y : Operand) (t u : TypeId) : sop P N get ev (.call ⟨.builtin .append, #[x, y], #[t, u]⟩) = sAppend P N get t u (ev x) (ev y) := rfl
theorem sop_min (x y : Operand) (ts : Array TypeId) : sop P N get ev (.call ⟨.builtin .min, #[x, y], ts⟩) = sMin (ev x) (ev y) := rfl
theorem sop_max (x y : Operand) (ts : Array TypeId) : sop P N get ev (.call ⟨.builtin .max, #[x, y], ts⟩) = sMax (ev x) (ev y) := rfl
theorem sop_call (v : Operand) (args : Array Operand) (ts : Array TypeId) : sop P N get ev (.call ⟨.value v, args, ts⟩) = none := rfl
theorem cells_agg (l : List SV) : SV.cells (.agg l) = some l := rfl
theorem cells_int (k : IntKind) (n : Int) : SV.cells (.v (.int k n)) = some [.v (.int k n)] := rfl
theorem cells_bool (b : Bool) : SV.cells (.v (.bool b)) = some [.v (.bool b)] := rfl
theorem cells_string (b : ByteArray) : SV.cells (.v (.string b)) = some [.v (.string b)] := rfl
theorem cells_ptr (b e k : Nat) : SV.cells (.ptr b e k) = some [.ptr b e k] := rfl
theorem cells_slc (b e n : Nat) : SV.cells (.slc b e n) = some [.slc b e n] := rfl
theorem cells_nilslc (n c : Nat) : SV.cells (.v (.slice none n c)) = some [.v (.slice none n c)] := rfl
theorem sBox_agg (N : Nat) (t : TypeId) (l : List SV) (h : l.all SV.one = true) : sBox N t (.agg l) = some ⟨.ptr N 0 0, ⟨none, some (.row ⟨l.length, 1, true, t, fun _ => l⟩)⟩, True⟩ := by
  simp [sBox, SV.cells, h, rowOf1]
theorem sBox_one (N : Nat) (t : TypeId) (x : SV) (h : x.cells = some [x]) (h1 : x.one = true) : sBox N t x = some ⟨.ptr N 0 0, ⟨none, some (.row ⟨1, 1, true, t, fun _ => [x]⟩)⟩, True⟩ := by
  simp [sBox, h, h1, rowOf1]
def sload2 (K : Option SK) (n : Option Nat) (g : Option Bool) (e k : Nat) : Option SO :=
  match K, n, g with
  | some (.row B), some s, some g => if k + s ≤ B.size ∧ (g = false → s = 1) then some ⟨spart g (B.el e) k s, {}, e < B.n⟩ else none
  | _, _, _ => none
def sload3 (row : List SV) (n : Option Nat) (g : Option Bool) (k : Nat) : Option SO :=
  match n, g with
  | some s, some g => if (g = false → s = 1) then some ⟨spart g row k s, {}, k + s ≤ row.length⟩ else none
  | _, _ => none
theorem sLoad_rp (t : TypeId) (row : List SV) (k : Nat) : sLoad P get t (.rp row k) = sload3 row (tsz P t) (tagg P t) k := rfl
theorem sload3_agg (row : List SV) (w k : Nat) : sload3 row (some w) (some true) k = some ⟨spart true row k w, {}, k + w ≤ row.length⟩ := by simp [sload3]
theorem sload3_cell (row : List SV) (k : Nat) : sload3 row (some 1) (some false) k = some ⟨cellAt row k, {}, k + 1 ≤ row.length⟩ := by simp [sload3, spart]
theorem sLoad_ptr (t : TypeId) (b e k : Nat) : sLoad P get t (.ptr b e k) = sload2 (get b) (tsz P t) (tagg P t) e k := rfl
def sstore2 (K : Option SK) (n : Option Nat) (l : Option (List SV)) (b e k : Nat) : Option SO :=
  match K, n, l with
  | some (.row B), some s, some l => if k + s ≤ B.size ∧ l.length = s ∧ l.all SV.one = true ∧ B.own = true then some ⟨.any, { set := some (b, some (.row (B.upd e k l))) }, e < B.n⟩ else none
  | _, _, _ => none
theorem sStore_ptr (t : TypeId) (b e k : Nat) (y : SV) : sStore P get t (.ptr b e k) y = sstore2 (get b) (tsz P t) y.cells b e k := rfl
theorem upd_one (z : Nat) (own : Bool) (ty : TypeId) (el : Nat → List SV) (e k : Nat) (xs : List SV) : SB.upd ⟨z, 1, own, ty, el⟩ e k xs = ⟨z, 1, own, ty, fun _ => splice (el 0) k xs⟩ := rfl
theorem splice_all (l xs : List SV) (h : l.length = xs.length) : splice l 0 xs = xs := by
  simp [splice, h.symm]
theorem sAlloc_eq (N : Nat) (t : TypeId) (zs : List Value) (h : tzero P t = some zs) (h1 : zs.all (·.oneCell') = true) : sAlloc P N t = some ⟨.ptr N 0 0, ⟨none, some (.row ⟨zs.length, 1, true, t, fun _ => zs.map .v⟩)⟩, True⟩ := by
  simp [sAlloc, h, h1, rowOf1]
def sfa2 (x : SV) (r : Option (TypeId × Nat × Nat)) : Option SO :=
  match x, r with
  | .ptr b e k, some (_, off, n) => if n ≠ 0 then some ⟨.ptr b e (k + off), {}, True⟩ else none
  | .rp row k, some (_, off, n) => if n ≠ 0 then some ⟨.rp row (k + off), {}, True⟩ else none
  | _, _ => none
theorem sFieldAddr_eq (t : TypeId) (x : SV) (i : Nat) : sFieldAddr P t x i = sfa2 x (tfield P t i) := rfl
theorem sfa2_ptr (b e k : Nat) (t : TypeId) (off n : Nat) : sfa2 (.ptr b e k) (some (t, off, n + 1)) = some ⟨.ptr b e (k + off), {}, True⟩ := by simp [sfa2]
theorem sfa2_rp (row : List SV) (k : Nat) (t : TypeId) (off n : Nat) : sfa2 (.rp row k) (some (t, off, n + 1)) = some ⟨.rp row (k + off), {}, True⟩ := by simp [sfa2]
theorem sNilCheck_rp (row : List SV) (k : Nat) : sNilCheck (.rp row k) = some ⟨.rp row k, {}, True⟩ := rfl
theorem sNilCheck_ptr (b e k : Nat) : sNilCheck (.ptr b e k) = some ⟨.ptr b e k, {}, True⟩ := rfl
theorem cellAt_zero (x : SV) (l : List SV) : cellAt (x :: l) 0 = x := rfl
theorem cellAt_succ (x : SV) (l : List SV) (n : Nat) : cellAt (x :: l) (n + 1) = cellAt l n := rfl
theorem sBin_int (op : BinOp) (t : TypeId) (k k' : IntKind) (a b : Int) : sBin P op t (.v (.int k a)) (.v (.int k' b)) = sInt2 op k a k' b := rfl
theorem sInt2_add (k : IntKind) (a b : Int) : sInt2 .add k a k b = some ⟨.v (.int k (k.wrap (a + b))), {}, True⟩ := by simp [sInt2, sInt]
theorem sInt2_sub (k : IntKind) (a b : Int) : sInt2 .sub k a k b = some ⟨.v (.int k (k.wrap (a - b))), {}, True⟩ := by simp [sInt2, sInt]
theorem sInt2_mul (k : IntKind) (a b : Int) : sInt2 .mul k a k b = some ⟨.v (.int k (k.wrap (a * b))), {}, True⟩ := by simp [sInt2, sInt]
theorem sInt2_quo (k : IntKind) (a b : Int) : sInt2 .quo k a k b = some ⟨.v (.int k (k.wrap (a.tdiv b))), {}, b ≠ 0⟩ := by simp [sInt2, sInt]
theorem sInt2_rem (k : IntKind) (a b : Int) : sInt2 .rem k a k b = some ⟨.v (.int k (a.tmod b)), {}, b ≠ 0⟩ := by simp [sInt2, sInt]
theorem sInt2_and (k : IntKind) (a b : Int) : sInt2 .and k a k b = some ⟨.v (.int k (ibits .and k a b)), {}, True⟩ := by simp [sInt2, sInt]
theorem sInt2_or (k : IntKind) (a b : Int) : sInt2 .or k a k b = some ⟨.v (.int k (ibits .or k a b)), {}, True⟩ := by simp [sInt2, sInt]
theorem sInt2_xor (k : IntKind) (a b : Int) : sInt2 .xor k a k b = some ⟨.v (.int k (ibits .xor k a b)), {}, True⟩ := by simp [sInt2, sInt]
theorem sInt2_eql (k : IntKind) (a b : Int) : sInt2 .eql k a k b = some ⟨.v (.bool (decide (a = b))), {}, True⟩ := by simp [sInt2, sInt]
theorem sInt2_neq (k : IntKind) (a b : Int) : sInt2 .neq k a k b = some ⟨.v (.bool (!decide (a = b))), {}, True⟩ := by simp [sInt2, sInt]
theorem sInt2_lss (k : IntKind) (a b : Int) : sInt2 .lss k a k b = some ⟨.v (.bool (decide (a < b))), {}, True⟩ := by simp [sInt2, sInt]
theorem sInt2_leq (k : IntKind) (a b : Int) : sInt2 .leq k a k b = some ⟨.v (.bool (decide (a ≤ b))), {}, True⟩ := by simp [sInt2, sInt]
theorem sInt2_gtr (k : IntKind) (a b : Int) : sInt2 .gtr k a k b = some ⟨.v (.bool (decide (b < a))), {}, True⟩ := by simp [sInt2, sInt]
theorem sInt2_geq (k : IntKind) (a b : Int) : sInt2 .geq k a k b = some ⟨.v (.bool (decide (b ≤ a))), {}, True⟩ := by simp [sInt2, sInt]
theorem sInt2_shl (k k' : IntKind) (a b : Int) : sInt2 .shl k a k' b = some ⟨.v (.int k (k.wrap (a * 2 ^ (min b.toNat k.bits)))), {}, 0 ≤ b⟩ := rfl
theorem sInt2_shr (k k' : IntKind) (a b : Int) : sInt2 .shr k a k' b = some ⟨.v (.int k (a.fdiv (2 ^ (min b.toNat k.bits)))), {}, 0 ≤ b⟩ := rfl
theorem sUn_not (b : Bool) : sUn .not (.v (.bool b)) = some ⟨.v (.bool (!b)), {}, True⟩ := rfl
theorem sUn_neg (k : IntKind) (n : Int) : sUn .neg (.v (.int k n)) = some ⟨.v (.int k (k.wrap (0 - n))), {}, True⟩ := rfl
end
end Go.SL
namespace Go.SL
open Go
section
variable {P : Program} {Q : SX → St → Prop} {K : List It} {s : St} {all rest : List Oper}
def Pure (P : Program) (f : FuncId) (args : List SV) (x : SV) : Prop := SCall P f args [] fun r L => r = .ret x ∧ L = []
theorem after_nil (s : St) : s.after [] [] [] = s := by cases s; simp [St.after, mergeL]
theorem SemOps.callp {op : Oper} {fo : Operand} {argos : Array Operand} {ats : Array TypeId} {f : FuncId} {fn : Func} {x : SV} {k : Nat}
    (hop : op.op = .call ⟨.value fo, argos, ats⟩) (hg : op.guard = none) (hfv : seval s.env fo = .fn (.func f) [] [])
    (hfn : P.funcs[f]? = some fn) (hbody : fn.body.isSome = true) (hname : (fn.name == "runtime.NumGoroutine") = false)
    {ac : List SV} (hc : Pure P f ac x) (hargs : argos.toList.map (seval s.env) = ac) (hren : ∀ ρ, SV.renL ρ ac = ac) (hx : ∀ ρ, x.ren ρ = x)
    (hd : dstOk s op.dst) (next : swOps P Q (sw P Q k) all rest K (s.put op.dst x)) : SemOps P Q all (op :: rest) K s := by
  refine SemOps.call hop hg hfv hfn hbody hname [] hc (by rw [hren]; simpa using hargs) (by simp) trivial hd (fun r L' h => ?_) (fun r L' h => ?_)
  · obtain ⟨h1, rfl⟩ := h
    cases h1
    rw [after_nil, hx]
    exact ops_sound _ (fun K s h => sw_sound k K s h) _ _ _ next
  · exact nomatch h.1
theorem renL_cons (ρ : Nat → Nat) (x : SV) (l : List SV) : SV.renL ρ (x :: l) = x.ren ρ :: SV.renL ρ l := rfl
theorem renL_nil (ρ : Nat → Nat) : SV.renL ρ [] = [] := rfl
theorem ren_v (ρ : Nat → Nat) (x : Value) : SV.ren ρ (.v x) = .v x := rfl
theorem ren_agg (ρ : Nat → Nat) (l : List SV) : SV.ren ρ (.agg l) = .agg (SV.renL ρ l) := rfl
theorem ren_ptr (ρ : Nat → Nat) (b e k : Nat) : SV.ren ρ (.ptr b e k) = .ptr (ρ b) e k := rfl
theorem ren_slc (ρ : Nat → Nat) (b e k : Nat) : SV.ren ρ (.slc b e k) = .slc (ρ b) e k := rfl
end
end Go.SL
namespace Go.SL
open Go
section
variable {P : Program}
theorem SQ.pure {fn : Func} {R : SE → List (Option SK) → Prop} {s : St} {vs : List SV} {p : Prop} {x : SV} (h : sresL P s fn.results.toList = some (vs, p)) (hp : p) (hx : SV.ofResults vs = x) (hren : ∀ ρ, x.ren ρ = x) (hb : s.base = 0)
    (hR : R (.ret x) []) : SQ P fn R .ret s :=
  ⟨vs, p, h, hp, [], x, [], Ent.eq (by rw [hren]; exact hx), ⟨rfl, rfl, by show s.base ≤ 0; omega, List.nodup_nil, by rw [hb]; rfl, trivial, trivial⟩, hR⟩
theorem sres1_tmp (s : St) (t : Tmp) : sres1 P s (.tmp t) = sKnown (lookup s.env t) := rfl
theorem sres1_cell (s : St) (a : Tmp) (t : TypeId) : sres1 P s (.cell a t) = (sLoad P (getL s.L) t (lookup s.env a)).map fun r => (r.val, r.ob) := rfl
theorem sresL_nil (s : St) : sresL P s [] = some ([], True) := Eq.trans rfl rfl
def sres2 (a : Option (SV × Prop)) (b : Option (List SV × Prop)) : Option (List SV × Prop) :=
  match a, b with
  | some (x, p), some (y, q) => some (x :: y, p ∧ q)
  | _, _ => none
theorem sresL_cons (s : St) (r : ResultVar) (l : List ResultVar) : sresL P s (r :: l) = sres2 (sres1 P s r) (sresL P s l) := Eq.trans rfl rfl
theorem sres2_some (x : SV) (p : Prop) (y : List SV) (q : Prop) : sres2 (some (x, p)) (some (y, q)) = some (x :: y, p ∧ q) := rfl
theorem sKnown_v (x : Value) : sKnown (.v x) = some (.v x, True) := rfl
theorem sKnown_agg (l : List SV) : sKnown (.agg l) = some (.agg l, True) := rfl
theorem sKnown_slc (b e n : Nat) : sKnown (.slc b e n) = some (.slc b e n, True) := rfl
theorem sKnown_ptr (b e n : Nat) : sKnown (.ptr b e n) = some (.ptr b e n, True) := rfl
end
end Go.SL
