/- Contracts of functions that the laws reach, on abstract values, and what they need: no conditions but those that each theorem states. -/
import Derived.Test.YtheodenjjaoncaaSlL
set_option linter.unusedVariables false
set_option linter.unusedSimpArgs false
set_option linter.defProp false
namespace Go.SL
open Go
set_option linter.unusedVariables false
section
variable {P : Program} {Q : SX → St → Prop} {K : List It} {s : St} {all rest : List Oper} {get : Nat → Option SK} {N : Nat}
theorem sload2_agg (z n : Nat) (own : Bool) (ty : TypeId) (el : Nat → List SV) (w e k : Nat) (h : k + w ≤ z) :
    sload2 (some (.row ⟨z, n, own, ty, el⟩)) (some w) (some true) e k = some ⟨spart true (el e) k w, {}, e < n⟩ := by
  simp only [sload2]
  rw [if_pos ⟨h, fun hg => by cases hg⟩]
theorem sload2_cell (z n : Nat) (own : Bool) (ty : TypeId) (el : Nat → List SV) (e k : Nat) (h : k + 1 ≤ z) :
    sload2 (some (.row ⟨z, n, own, ty, el⟩)) (some 1) (some false) e k = some ⟨cellAt (el e) k, {}, e < n⟩ := by
  simp only [sload2]
  rw [if_pos ⟨h, fun _ => trivial⟩]
  rfl
theorem sstore2_one' (z : Nat) (ty : TypeId) (el : Nat → List SV) (w : Nat) (l : List SV) (b e k : Nat) (h1 : k + w ≤ z) (h2 : l.length = w) (h3 : l.all SV.one = true) :
    sstore2 (some (.row ⟨z, 1, true, ty, el⟩)) (some w) (some l) b e k = some ⟨.any, ⟨some (b, some (.row ⟨z, 1, true, ty, fun _ => splice (el 0) k l⟩)), none⟩, e < 1⟩ := by
  simp only [sstore2, upd_one]
  rw [if_pos ⟨h1, h2, h3, trivial⟩]
theorem sstore2_int (z : Nat) (ty : TypeId) (el : Nat → List SV) (kk : IntKind) (x : Int) (b e k : Nat) (h1 : k + 1 ≤ z) :
    sstore2 (some (.row ⟨z, 1, true, ty, el⟩)) (some 1) (some [.v (.int kk x)]) b e k = some ⟨.any, ⟨some (b, some (.row ⟨z, 1, true, ty, fun _ => splice (el 0) k [.v (.int kk x)]⟩)), none⟩, e < 1⟩ :=
  sstore2_one' z ty el 1 _ b e k h1 rfl rfl
theorem sstore2_bool (z : Nat) (ty : TypeId) (el : Nat → List SV) (x : Bool) (b e k : Nat) (h1 : k + 1 ≤ z) :
    sstore2 (some (.row ⟨z, 1, true, ty, el⟩)) (some 1) (some [.v (.bool x)]) b e k = some ⟨.any, ⟨some (b, some (.row ⟨z, 1, true, ty, fun _ => splice (el 0) k [.v (.bool x)]⟩)), none⟩, e < 1⟩ :=
  sstore2_one' z ty el 1 _ b e k h1 rfl rfl
theorem sstore2_string (z : Nat) (ty : TypeId) (el : Nat → List SV) (x : ByteArray) (b e k : Nat) (h1 : k + 1 ≤ z) :
    sstore2 (some (.row ⟨z, 1, true, ty, el⟩)) (some 1) (some [.v (.string x)]) b e k = some ⟨.any, ⟨some (b, some (.row ⟨z, 1, true, ty, fun _ => splice (el 0) k [.v (.string x)]⟩)), none⟩, e < 1⟩ :=
  sstore2_one' z ty el 1 _ b e k h1 rfl rfl
theorem sstore2_ptr (z : Nat) (ty : TypeId) (el : Nat → List SV) (b1 e1 k1 : Nat) (b e k : Nat) (h1 : k + 1 ≤ z) :
    sstore2 (some (.row ⟨z, 1, true, ty, el⟩)) (some 1) (some [.ptr b1 e1 k1]) b e k = some ⟨.any, ⟨some (b, some (.row ⟨z, 1, true, ty, fun _ => splice (el 0) k [.ptr b1 e1 k1]⟩)), none⟩, e < 1⟩ :=
  sstore2_one' z ty el 1 _ b e k h1 rfl rfl
theorem sstore2_slc (z : Nat) (ty : TypeId) (el : Nat → List SV) (b1 e1 n1 : Nat) (b e k : Nat) (h1 : k + 1 ≤ z) :
    sstore2 (some (.row ⟨z, 1, true, ty, el⟩)) (some 1) (some [.slc b1 e1 n1]) b e k = some ⟨.any, ⟨some (b, some (.row ⟨z, 1, true, ty, fun _ => splice (el 0) k [.slc b1 e1 n1]⟩)), none⟩, e < 1⟩ :=
  sstore2_one' z ty el 1 _ b e k h1 rfl rfl
theorem sstore2_nil (z : Nat) (ty : TypeId) (el : Nat → List SV) (x y : Nat) (b e k : Nat) (h1 : k + 1 ≤ z) :
    sstore2 (some (.row ⟨z, 1, true, ty, el⟩)) (some 1) (some [.v (.slice none x y)]) b e k = some ⟨.any, ⟨some (b, some (.row ⟨z, 1, true, ty, fun _ => splice (el 0) k [.v (.slice none x y)]⟩)), none⟩, e < 1⟩ :=
  sstore2_one' z ty el 1 _ b e k h1 rfl rfl
theorem sstore2_ifc (z : Nat) (ty : TypeId) (el : Nat → List SV) (t1 : TypeId) (x1 : SV) (b e k : Nat) (h1 : k + 1 ≤ z) :
    sstore2 (some (.row ⟨z, 1, true, ty, el⟩)) (some 1) (some [.ifc t1 x1]) b e k = some ⟨.any, ⟨some (b, some (.row ⟨z, 1, true, ty, fun _ => splice (el 0) k [.ifc t1 x1]⟩)), none⟩, e < 1⟩ :=
  sstore2_one' z ty el 1 _ b e k h1 rfl rfl
def sia1 (P : Program) (get : Nat → Option SK) (d : Option TypeDesc) (x : SV) (i : Int) : Option SO :=
  match x with
    | .slc b e n => match d, get b with
      | some (.slice elem), some (.row B) => if tsz P elem = some B.size then some ⟨.ptr b (e + i.toNat) 0, {}, 0 ≤ i ∧ i < n⟩ else none
      | _, _ => none
    | .asl b e k n => match d with
      | some (.slice elem) => if tsz P elem = some 1 then some ⟨.ptr b e (k + i.toNat), {}, 0 ≤ i ∧ i < n⟩ else none
      | _ => none
    | .ptr b e k => match d with
      | some (.array n elem) => match tsz P elem with
        | some s => some ⟨.ptr b e (k + i.toNat * s), {}, 0 ≤ i ∧ i < n⟩
        | none => none
      | _ => none
    | .rp row k => match d with
      | some (.array n elem) => match tsz P elem with
        | some s => some ⟨.rp row (k + i.toNat * s), {}, 0 ≤ i ∧ i < n⟩
        | none => none
      | _ => none
    | .rsl s rows => match d with
      | some (.slice elem) => if tsz P elem = some s then some ⟨.rp (rows.getD i.toNat []) 0, {}, 0 ≤ i ∧ i < rows.length⟩ else none
      | _ => none
    | _ => none
theorem sIndexAddr_int (t : TypeId) (x : SV) (k : IntKind) (i : Int) : sIndexAddr P get t x (.v (.int k i)) = sia1 P get (P.underlying t) x i := rfl
def sia2 (n : Option Nat) (b e k m : Nat) (i : Int) : Option SO :=
  match n with
  | some s => some ⟨.ptr b e (k + i.toNat * s), {}, 0 ≤ i ∧ i < m⟩
  | none => none
theorem sia1_ptr (m : Nat) (elem : TypeId) (b e k : Nat) (i : Int) : sia1 P get (some (.array m elem)) (.ptr b e k) i = sia2 (tsz P elem) b e k m i := rfl
theorem sia2_some (s b e k m : Nat) (i : Int) : sia2 (some s) b e k m i = some ⟨.ptr b e (k + i.toNat * s), {}, 0 ≤ i ∧ i < m⟩ := rfl
def sia5 (n : Option Nat) (row : List SV) (k m : Nat) (i : Int) : Option SO :=
  match n with
  | some s => some ⟨.rp row (k + i.toNat * s), {}, 0 ≤ i ∧ i < m⟩
  | none => none
theorem sia1_rp (m : Nat) (elem : TypeId) (row : List SV) (k : Nat) (i : Int) : sia1 P get (some (.array m elem)) (.rp row k) i = sia5 (tsz P elem) row k m i := rfl
theorem sia5_some (s : Nat) (row : List SV) (k m : Nat) (i : Int) : sia5 (some s) row k m i = some ⟨.rp row (k + i.toNat * s), {}, 0 ≤ i ∧ i < m⟩ := rfl
def sia6 (n : Option Nat) (s : Nat) (rows : List (List SV)) (i : Int) : Option SO := if n = some s then some ⟨.rp (rows.getD i.toNat []) 0, {}, 0 ≤ i ∧ i < rows.length⟩ else none
theorem sia1_rsl (elem : TypeId) (s : Nat) (rows : List (List SV)) (i : Int) : sia1 P get (some (.slice elem)) (.rsl s rows) i = sia6 (tsz P elem) s rows i := rfl
theorem sia6_some (s : Nat) (rows : List (List SV)) (i : Int) : sia6 (some s) s rows i = some ⟨.rp (rows.getD i.toNat []) 0, {}, 0 ≤ i ∧ i < rows.length⟩ := by simp [sia6]
def sia3 (K : Option SK) (n : Option Nat) (b e m : Nat) (i : Int) : Option SO :=
  match K with
  | some (.row B) => if n = some B.size then some ⟨.ptr b (e + i.toNat) 0, {}, 0 ≤ i ∧ i < m⟩ else none
  | _ => none
theorem sia1_slc (elem : TypeId) (b e m : Nat) (i : Int) : sia1 P get (some (.slice elem)) (.slc b e m) i = sia3 (get b) (tsz P elem) b e m i := by
  simp only [sia1, sia3]
  cases get b with
  | none => rfl
  | some K => cases K <;> rfl
theorem sia3_row (z n : Nat) (own : Bool) (ty : TypeId) (el : Nat → List SV) (b e m : Nat) (i : Int) : sia3 (some (.row ⟨z, n, own, ty, el⟩)) (some z) b e m i = some ⟨.ptr b (e + i.toNat) 0, {}, 0 ≤ i ∧ i < m⟩ := by simp [sia3]
def sia4 (n : Option Nat) (b e k m : Nat) (i : Int) : Option SO := if n = some 1 then some ⟨.ptr b e (k + i.toNat), {}, 0 ≤ i ∧ i < m⟩ else none
theorem sia1_asl (elem : TypeId) (b e k m : Nat) (i : Int) : sia1 P get (some (.slice elem)) (.asl b e k m) i = sia4 (tsz P elem) b e k m i := rfl
theorem sia4_one (b e k m : Nat) (i : Int) : sia4 (some 1) b e k m i = some ⟨.ptr b e (k + i.toNat), {}, 0 ≤ i ∧ i < m⟩ := rfl
theorem sExtract_v (x : Value) (l : List SV) : sExtract (.tup (.v x :: l)) 0 = some ⟨.v x, {}, True⟩ := rfl
theorem sExtract_slc (b e n : Nat) (l : List SV) : sExtract (.tup (.slc b e n :: l)) 0 = some ⟨.slc b e n, {}, True⟩ := rfl
theorem sExtract_ptr (b e n : Nat) (l : List SV) : sExtract (.tup (.ptr b e n :: l)) 0 = some ⟨.ptr b e n, {}, True⟩ := rfl
theorem sExtract_rsl (z : Nat) (rows : List (List SV)) (l : List SV) : sExtract (.tup (.rsl z rows :: l)) 0 = some ⟨.rsl z rows, {}, True⟩ := rfl
theorem sExtract_rp (row : List SV) (k : Nat) (l : List SV) : sExtract (.tup (.rp row k :: l)) 0 = some ⟨.rp row k, {}, True⟩ := rfl
theorem sExtract_agg (x l : List SV) : sExtract (.tup (.agg x :: l)) 0 = some ⟨.agg x, {}, True⟩ := rfl
theorem sExtract_ifc (t : TypeId) (x : SV) (l : List SV) : sExtract (.tup (.ifc t x :: l)) 0 = some ⟨.ifc t x, {}, True⟩ := rfl
theorem sExtract_succ (x : SV) (l : List SV) (i : Nat) : sExtract (.tup (x :: l)) (i + 1) = sExtract (.tup l) i := by simp [sExtract]
def sconv1 (n : Int) (d d' : Option TypeDesc) : Option SO :=
  match d, d' with
  | some _, some (.int k) => some ⟨.v (.int k (k.wrap n)), {}, True⟩
  | _, _ => none
theorem sConv_int (a b : TypeId) (k : IntKind) (n : Int) : sConv P get a b (.v (.int k n)) = sconv1 n (P.underlying a) (P.underlying b) := rfl
theorem sconv1_some (n : Int) (d : TypeDesc) (k : IntKind) : sconv1 n (some d) (some (.int k)) = some ⟨.v (.int k (k.wrap n)), {}, True⟩ := rfl
def sslice1 (P : Program) (d : Option TypeDesc) (b e k : Nat) (lo hi : Option SV) : Option SO :=
  match d, lo, hi with
    | some (.array n elem), none, none => if tsz P elem = some 1 then some ⟨.asl b e k n, {}, True⟩ else none
    | _, _, _ => none
theorem sSlice_ptr (t : TypeId) (b e k : Nat) (lo hi : Option SV) : sSlice P get t (.ptr b e k) lo hi = sslice1 P (P.underlying t) b e k lo hi := rfl
def sslice2 (s : Option Nat) (b e k n : Nat) : Option SO := if s = some 1 then some ⟨.asl b e k n, {}, True⟩ else none
theorem sslice1_arr (n : Nat) (elem : TypeId) (b e k : Nat) : sslice1 P (some (.array n elem)) b e k none none = sslice2 (tsz P elem) b e k n := rfl
theorem sslice2_one (b e k n : Nat) : sslice2 (some 1) b e k n = some ⟨.asl b e k n, {}, True⟩ := rfl
def sbuild1 (P : Program) (t : TypeId) (zs : Option (List Value)) (d : Option (Option Nat)) (parts : List (Nat × SV)) : Option SO :=
  match zs, d with
  | some zs, some none => match sfill (fieldPlaceOf P t) (zs.map .v) parts with
    | some l => some ⟨.agg l, {}, True⟩
    | none => none
  | some zs, some (some s) => match sfill (fun i => some (i * s, s)) (zs.map .v) parts with
    | some l => some ⟨.agg l, {}, True⟩
    | none => none
  | _, _ => none
def sagg (l : Option (List SV)) : Option SO :=
  match l with
  | some l => some ⟨.agg l, {}, True⟩
  | none => none
theorem sagg_some (l : List SV) : sagg (some l) = some ⟨.agg l, {}, True⟩ := rfl
theorem sBuild_eq (t : TypeId) (parts : List (Nat × SV)) : sBuild P t parts = sbuild1 P t (tzero P t) (tlit P t) parts := rfl
theorem sfill_nil (pl : Nat → Option (Nat × Nat)) (l : List SV) : sfill pl l [] = some l := rfl
def sfill1 (pl : Nat → Option (Nat × Nat)) (cells : List SV) (p : Option (Nat × Nat)) (v : Option (List SV)) (rest : List (Nat × SV)) : Option (List SV) :=
  match p, v with
  | some (off, size), some l => if l.length = size ∧ off + l.length ≤ cells.length then sfill pl (splice cells off l) rest else none
  | _, _ => none
theorem sfill_cons (pl : Nat → Option (Nat × Nat)) (cells : List SV) (i : Nat) (v : SV) (rest : List (Nat × SV)) : sfill pl cells ((i, v) :: rest) = sfill1 pl cells (pl i) v.cells rest := rfl
theorem sfill1_some (pl : Nat → Option (Nat × Nat)) (cells : List SV) (off size : Nat) (l : List SV) (rest : List (Nat × SV)) (h1 : l.length = size) (h2 : off + size ≤ cells.length) :
    sfill1 pl cells (some (off, size)) (some l) rest = sfill pl (splice cells off l) rest := by
  simp only [sfill1]
  rw [if_pos ⟨h1, by omega⟩]
theorem fieldPlaceOf_eq (t : TypeId) (i : Nat) : fieldPlaceOf P t i = (tfield P t i).map fun f => (f.2.1, f.2.2) := rfl
theorem sBin_agg (op : BinOp) (t : TypeId) (a b : List SV) (r : Bool) (h : cellsEq a b = some r) : sBin P op t (.agg a) (.agg b) = sEqRes op r (FlatEq P t a b) := by
  simp [sBin, h]
theorem sEqRes_eql (b : Bool) (ob : Prop) : sEqRes .eql b ob = some ⟨.v (.bool b), {}, ob⟩ := rfl
theorem sEqRes_neq (b : Bool) (ob : Prop) : sEqRes .neq b ob = some ⟨.v (.bool (!b)), {}, ob⟩ := rfl
theorem SemOps.go {k : Nat} (h : swOps P Q (sw P Q k) all rest K s) : SemOps P Q all rest K s := ops_sound _ (fun K s h => sw_sound k K s h) _ _ _ h
theorem Sem.go {k : Nat} (h : sw P Q k K s) : Sem P Q K s := sw_sound k K s h
theorem goK {P : Program} {all rest : List Oper} {K : List It} {Q : SX → St → Prop} {s : St} (h : swOps P Q (sw P Q 1000) all rest K s) : SemOps P Q all rest K s := SemOps.go h
theorem goC {P : Program} {K : List It} {Q : SX → St → Prop} {s : St} (h : sw P Q 1000 K s) : Sem P Q K s := Sem.go h
theorem SemOps.value {op : Oper} {x : SV} {k : Nat} (hg : op.guard = none) (h : ∀ o β a w, RR o β s a w → ∃ v, (execOp a.eval op).run P w = .ok (.value v) w ∧ RelV β x v) (hd : dstOk s op.dst)
    (next : swOps P Q (sw P Q k) all rest K (s.put op.dst x)) : SemOps P Q all (op :: rest) K s := by
  intro o β a w hr
  obtain ⟨v, h1, h2⟩ := h o β a w hr
  unfold wpList
  rw [if_pos (by simp [Region.wanted, hg])]
  left
  unfold Oper.wp
  rw [h1]
  exact SemOps.go next o β _ w (hr.put hd h2)
theorem OpSem.call {op : Oper} {fo : Operand} {argos : Array Operand} {ats : Array TypeId} {f : FuncId} {fi ca : List SV} {fn : Func} {N : St → Prop}
    (hop : op.op = .call ⟨.value fo, argos, ats⟩) (hfv : seval s.env fo = .fn (.func f) fi ca)
    (hfn : P.funcs[f]? = some fn) (hbody : fn.body.isSome = true) (hname : (fn.name == "runtime.NumGoroutine") = false)
    (l : List Nat) {ac : List SV} {Lc : List (Option SK)} {R : SE → List (Option SK) → Prop} (hc : SCall P f ac Lc R)
    (hargs : fi ++ argos.toList.map (seval s.env) ++ ca = SV.renL (rho l s.L.length) ac) (hnd : l.Nodup) (hL : wkL nofz (rho l s.L.length) s.L l Lc) (hd : dstOk s op.dst)
    (next : ∀ r L', R (.ret r) L' → N ((s.after l Lc L').put op.dst (r.ren (rho l s.L.length))))
    (pan : ∀ x L', ¬ R (.pan x) L') : OpSem P op N s := by
  intro o β a w hr
  have hf := eval_rel hr fo
  rw [hfv] at hf
  obtain ⟨c1, c2, hfe, hfi, hca⟩ := hf
  have hrun : (execOp a.eval op).run P w = .ok (.enter f (c1 ++ argos.map a.eval ++ c2)) w := by
    have hn : fn.body.isNone = false := by cases hb : fn.body <;> simp [hb] at hbody ⊢
    simp only [execOp, hop, resolve, Deferred.ofValue, hfe, Sem.run_bind, Sem.run_pure, Result.andThen_ok, invoke, callFunc, run_program, hfn, hname, hn, Bool.false_eq_true, if_false]
  unfold stepTo
  rw [hrun]
  have hrelA : RelL β (fi ++ argos.toList.map (seval s.env) ++ ca) (c1 ++ argos.map a.eval ++ c2).toList := by
    have h1 : RelL β (argos.toList.map (seval s.env)) (argos.toList.map a.eval) := relL_map (fun x => eval_rel hr x) _
    have := (hfi.append h1).append hca
    simpa using this
  rw [hargs] at hrelA
  refine (hc w _ _ (hr.heap.view hnd hL) (RelL.of_ren _ _ hrelA)).mono fun e w' ⟨β', L', r, hR, hrel, hh, hk, hlen', hsame⟩ => ?_
  obtain ⟨β2, hr2, hren, hle2⟩ := hr.called hnd hL hh hk hlen' hsame
  cases r with
  | ret x =>
    obtain ⟨v, rfl, hv⟩ := hrel
    exact ⟨v, rfl, β2, _, next x L' hR, hr2.put hd (RelV.ren hren x v hv), hle2.m⟩
  | pan x => exact (pan x L' hR).elim
theorem OpSem.callp {op : Oper} {fo : Operand} {argos : Array Operand} {ats : Array TypeId} {f : FuncId} {fn : Func} {x : SV} {N : St → Prop}
    (hop : op.op = .call ⟨.value fo, argos, ats⟩) (hfv : seval s.env fo = .fn (.func f) [] [])
    (hfn : P.funcs[f]? = some fn) (hbody : fn.body.isSome = true) (hname : (fn.name == "runtime.NumGoroutine") = false)
    {ac : List SV} (hc : Pure P f ac x) (hargs : argos.toList.map (seval s.env) = ac) (hren : ∀ ρ, SV.renL ρ ac = ac) (hx : ∀ ρ, x.ren ρ = x)
    (hd : dstOk s op.dst) (next : N (s.put op.dst x)) : OpSem P op N s := by
  refine OpSem.call hop hfv hfn hbody hname [] hc (by rw [hren]; simpa using hargs) (by simp) trivial hd (fun r L' h => ?_) (fun r L' h => nomatch h.1)
  obtain ⟨h1, rfl⟩ := h
  cases h1
  rw [after_nil, hx]
  exact next
theorem swSch_done (ops : List Oper) (G : Nat → Option SK) (f : St → Prop) : swSch P ops G f .done s = f s := Eq.trans rfl rfl
theorem swSch_non (ops : List Oper) (G : Nat → Option SK) (f : St → Prop) : swSch P ops G f .non s = True := Eq.trans rfl rfl
theorem swSch_one (ops : List Oper) (G : Nat → Option SK) (f : St → Prop) (i : Nat) (r : Sch) : swSch P ops G f (.one i r) s = obind ops[i]? (fun o => obind (sWant ops s.env o) (fun b => SIf b
      (obind (sop P s.L.length G (seval s.env) o.op) (fun q => dstOk s o.dst ∧ q.ob ∧ q.chg = {} ∧ swSch P ops G f r (s.put o.dst q.val)) False ⟨⟩)
      (dstOk s o.dst ∧ swSch P ops G f r (s.put o.dst (.v undef))) ⟨⟩) False ⟨⟩) False ⟨⟩ := Eq.trans rfl rfl
theorem swSch_alt (ops : List Oper) (G : Nat → Option SK) (f : St → Prop) (i : Nat) (r o' : Sch) : swSch P ops G f (.alt i r o') s = (obind ops[i]? (fun o => obind (sWant ops s.env o) (fun b => SIf b
      (obind (sop P s.L.length (getL s.L) (seval s.env) o.op) (fun q => dstOk s o.dst ∧ q.ob ∧ swSch P ops G f r (s.step o.dst q)) (OpSem P o (swSch P ops G f r) s) ⟨⟩)
      (dstOk s o.dst ∧ swSch P ops G f r (s.put o.dst (.v undef))) ⟨⟩) False ⟨⟩) False ⟨⟩ ∧ swSch P ops G f o' s) := Eq.trans rfl rfl
theorem wkL_none (fz : Nat → Option SB) (ρ : Nat → Nat) (L : List (Option SK)) : ∀ (l : List Nat), wkL fz ρ L l (List.replicate l.length none)
  | [] => trivial
  | _ :: l => wkL_none fz ρ L l
theorem SQ.ansR {fn : Func} {vs : List SV} {p : Prop} {x : SV} {n : Nat} (h : sresL P s fn.results.toList = some (vs, p)) (hp : p) (hb : s.base = n) (hx : SV.ofResults vs = x) (hren : ∀ ρ, x.ren ρ = x) :
    SQ P fn (fun r L => r = .ret x ∧ L = List.replicate n none) .ret s :=
  ⟨vs, p, h, hp, List.range s.base, x, List.replicate s.base none, Ent.eq (by rw [hren]; exact hx),
    ⟨rfl, rfl, by simp, List.nodup_range, by simp [List.take_of_length_le], trivial, by
      have := wkL_none (fzOf s.L (List.range s.base) (List.replicate s.base none)) (rho (List.range s.base) s.L.length) s.L (List.range s.base)
      rwa [List.length_range] at this⟩, rfl, by rw [hb]⟩
theorem SQ.run {fn : Func} {rs : List ResultVar} {x : SV} {n : Nat} (hr : fn.results.toList = rs) (hb : s.base = n) (hren : ∀ ρ, x.ren ρ = x) (h : obind (sresL P s rs) (fun q => q.2 ∧ SV.ofResults q.1 = x) False ⟨⟩) :
    SQ P fn (fun r L => r = .ret x ∧ L = List.replicate n none) .ret s := by
  cases hq : sresL P s rs with
  | none => rw [hq] at h; exact h.elim
  | some q =>
    rw [hq] at h
    exact SQ.ansR (vs := q.1) (p := q.2) (by rw [hr, hq]) h.1 hb h.2 hren
theorem ofResults_one (x : SV) : SV.ofResults [x] = x := rfl
theorem ofResults_two (x y : SV) (l : List SV) : SV.ofResults (x :: y :: l) = .tup (x :: y :: l) := rfl
theorem one_v (x : Value) : SV.one (.v x) = x.oneCell' := rfl
theorem one_ptr (b e k : Nat) : SV.one (.ptr b e k) = true := rfl
theorem one_slc (b e k : Nat) : SV.one (.slc b e k) = true := rfl
theorem one_ifc (t : TypeId) (x : SV) : SV.one (.ifc t x) = true := rfl
theorem oneCell_int (k : IntKind) (n : Int) : Value.oneCell' (.int k n) = true := rfl
theorem oneCell_bool (b : Bool) : Value.oneCell' (.bool b) = true := rfl
theorem oneCell_string (b : ByteArray) : Value.oneCell' (.string b) = true := rfl
theorem oneCell_slice (a : Option Addr) (n c : Nat) : Value.oneCell' (.slice a n c) = true := rfl
theorem ro_mk (ws : List Nat) (sz base : Nat) (env : List (Nat × SV)) (L : List (Option SK)) : St.ro ws ⟨sz, base, env, L⟩ = ⟨sz, L.length, env, roL ws 0 L⟩ := rfl
theorem back_mk (ws : List Nat) (sz base sz' base' : Nat) (env env' : List (Nat × SV)) (L L' : List (Option SK)) : St.back ws ⟨sz, base, env, L⟩ ⟨sz', base', env', L'⟩ = ⟨sz', base, env', backL ws 0 L L'⟩ := rfl
theorem roL_nil (ws : List Nat) (i : Nat) : roL ws i [] = [] := rfl
theorem roL_none (ws : List Nat) (i : Nat) (L : List (Option SK)) : roL ws i (none :: L) = none :: roL ws (i + 1) L := rfl
theorem roL_in (ws : List Nat) (i : Nat) (K : SK) (L : List (Option SK)) (h : ws.contains i = true) : roL ws i (some K :: L) = some K :: roL ws (i + 1) L := by simp only [roL, h, if_true]
theorem roL_row (ws : List Nat) (i : Nat) (z n : Nat) (own : Bool) (ty : TypeId) (el : Nat → List SV) (L : List (Option SK)) (h : ws.contains i = false) : roL ws i (some (.row ⟨z, n, own, ty, el⟩) :: L) = some (.row ⟨z, n, false, ty, el⟩) :: roL ws (i + 1) L := by simp only [roL, h, Bool.false_eq_true, if_false]
theorem backL_nil (ws : List Nat) (i : Nat) (L : List (Option SK)) : backL ws i [] L = L := rfl
theorem backL_none (ws : List Nat) (i : Nat) (L : List (Option SK)) (k : Option SK) (L' : List (Option SK)) : backL ws i (none :: L) (k :: L') = k :: backL ws (i + 1) L L' := rfl
theorem backL_in (ws : List Nat) (i : Nat) (K : SK) (L : List (Option SK)) (k : Option SK) (L' : List (Option SK)) (h : ws.contains i = true) : backL ws i (some K :: L) (k :: L') = k :: backL ws (i + 1) L L' := by simp only [backL, h, if_true]
theorem backL_row (ws : List Nat) (i : Nat) (K : SK) (L : List (Option SK)) (k : Option SK) (L' : List (Option SK)) (h : ws.contains i = false) : backL ws i (some K :: L) (k :: L') = some K :: backL ws (i + 1) L L' := by simp only [backL, h, Bool.false_eq_true, if_false]
def rog (K : Option SK) : Option SK :=
  match K with
  | some K => if K.own = true then none else some K
  | none => none
theorem roGet_eq (L : List (Option SK)) (b : Nat) : roGet L b = rog (getL L b) := rfl
theorem rog_row (z n : Nat) (ty : TypeId) (el : Nat → List SV) : rog (some (.row ⟨z, n, false, ty, el⟩)) = some (.row ⟨z, n, false, ty, el⟩) := rfl
end
end Go.SL
