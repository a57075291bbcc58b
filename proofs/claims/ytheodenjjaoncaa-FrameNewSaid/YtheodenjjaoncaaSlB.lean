/- Contracts of functions that the laws reach, on abstract values, and what they need: no conditions but those that each theorem states. -/
import Derived.Test.YtheodenjjaoncaaSlA
set_option linter.unusedVariables false
set_option linter.unusedSimpArgs false
set_option linter.defProp false
namespace Go.SL
open Go
def lookup : List (Nat × SV) → Nat → SV
  | [], _ => .any
  | (k, x) :: r, n => if k = n then x else lookup r n
def seval (env : List (Nat × SV)) : Operand → SV
  | .tmp t => lookup env t
  | .const v => .v v
  | .global g => .v (.pointer (some ⟨g, 0, none⟩))
  | .func f => .fn (.func f) [] []
def tsz (P : Program) (t : TypeId) : Option Nat := (P.info? t).map (·.size)
def tby (P : Program) (t : TypeId) : Option Nat := (P.info? t).map (·.bytes)
def tzero (P : Program) (t : TypeId) : Option (List Value) := (P.info? t).bind fun i => i.zero.map fun z => z.cells.toList
def descAgg : TypeDesc → Bool
  | .struct _ | .array _ _ => true
  | _ => false
def tagg (P : Program) (t : TypeId) : Option Bool := (P.underlying t).map descAgg
def tfield (P : Program) (s : TypeId) (f : Nat) : Option (TypeId × Nat × Nat) :=
  match P.underlying s with
  | some (.struct fs) => match fs[f]? with
    | some x => (tsz P x.type).map fun n => (x.type, x.offset, n)
    | none => none
  | _ => none
def SV.cells : SV → Option (List SV)
  | .agg l => some l
  | .any => none
  | .tup _ => none
  | .v (.agg cs) => some (cs.toList.map .v)
  | .v (.tuple _) => none
  | x => some [x]
def SV.one : SV → Bool
  | .v x => x.oneCell'
  | .any => false
  | .agg _ => false
  | .tup _ => false
  | _ => true
def cellAt : List SV → Nat → SV
  | [], _ => .v (.int .u8 0)
  | x :: _, 0 => x
  | _ :: r, n + 1 => cellAt r n
def splice (l : List SV) (k : Nat) (xs : List SV) : List SV := l.take k ++ xs ++ l.drop (k + xs.length)
def spart (g : Bool) (l : List SV) (off size : Nat) : SV := if g then .agg ((l.drop off).take size) else cellAt l off
def SB.upd (B : SB) (e k : Nat) (xs : List SV) : SB :=
  if B.n = 1 then { B with el := fun _ => splice (B.el 0) k xs } else { B with el := fun i => if i = e then splice (B.el e) k xs else B.el i }
structure SO where
  val : SV
  chg : Chg
  ob : Prop
def sLoad (P : Program) (get : Nat → Option SK) (t : TypeId) (x : SV) : Option SO :=
  match x with
  | .ptr b e k => match get b, tsz P t, tagg P t with
    | some (.row B), some s, some g => if k + s ≤ B.size ∧ (g = false → s = 1) then some ⟨spart g (B.el e) k s, {}, e < B.n⟩ else none
    | _, _, _ => none
  | .rp row k => match tsz P t, tagg P t with
    | some s, some g => if (g = false → s = 1) then some ⟨spart g row k s, {}, k + s ≤ row.length⟩ else none
    | _, _ => none
  | _ => none
def sStore (P : Program) (get : Nat → Option SK) (t : TypeId) (x y : SV) : Option SO :=
  match x with
  | .ptr b e k => match get b, tsz P t, y.cells with
    | some (.row B), some s, some l => if k + s ≤ B.size ∧ l.length = s ∧ l.all SV.one = true ∧ B.own = true then some ⟨.any, { set := some (b, some (.row (B.upd e k l))) }, e < B.n⟩ else none
    | _, _, _ => none
  | _ => none
def rowOf1 (ty : TypeId) (l : List SV) : SK := .row ⟨l.length, 1, true, ty, fun _ => l⟩
def sAlloc (P : Program) (N : Nat) (t : TypeId) : Option SO :=
  match tzero P t with
  | some zs => if zs.all (·.oneCell') = true then some ⟨.ptr N 0 0, { new := some (rowOf1 t (zs.map .v)) }, True⟩ else none
  | none => none
def sBox (N : Nat) (t : TypeId) (x : SV) : Option SO :=
  match x.cells with
  | some l => if l.all SV.one = true then some ⟨.ptr N 0 0, { new := some (rowOf1 t l) }, True⟩ else none
  | none => none
def sfill (place : Nat → Option (Nat × Nat)) : List SV → List (Nat × SV) → Option (List SV)
  | cells, [] => some cells
  | cells, (i, v) :: rest => match place i, v.cells with
    | some (off, size), some l => if l.length = size ∧ off + l.length ≤ cells.length then sfill place (splice cells off l) rest else none
    | _, _ => none
def fieldPlaceOf (P : Program) (t : TypeId) (i : Nat) : Option (Nat × Nat) := (tfield P t i).map fun f => (f.2.1, f.2.2)
def tlit (P : Program) (t : TypeId) : Option (Option Nat) :=
  match P.underlying t with
  | some (.struct fs) => if fs.toList.all (fun f => (tsz P f.type).isSome) = true then some none else none
  | some (.array _ elem) => (tsz P elem).map some
  | _ => none
def sBuild (P : Program) (t : TypeId) (parts : List (Nat × SV)) : Option SO :=
  match tzero P t, tlit P t with
  | some zs, some none => match sfill (fieldPlaceOf P t) (zs.map .v) parts with
    | some l => some ⟨.agg l, {}, True⟩
    | none => none
  | some zs, some (some s) => match sfill (fun i => some (i * s, s)) (zs.map .v) parts with
    | some l => some ⟨.agg l, {}, True⟩
    | none => none
  | _, _ => none
def zerosOf (zs : List Value) : Nat → List SV
  | 0 => []
  | n + 1 => zs.map .v ++ zerosOf zs n
def sBuildSlice (P : Program) (N : Nat) (t : TypeId) (len : Nat) (parts : List (Nat × SV)) : Option SO :=
  match P.underlying t with
  | some (.slice elem) => match tsz P elem, tzero P elem with
    | some s, some zs => if 0 < s ∧ zs.length = s ∧ len * s ≤ 16777216 then match sfill (fun i => some (i * s, s)) (zerosOf zs len) parts with
        | some l => if l.all SV.one = true then some ⟨.slc N 0 len, { new := some (.row ⟨s, len, true, elem, fun e => (l.drop (e * s)).take s⟩) }, True⟩ else none
        | none => none
      else none
    | _, _ => none
  | _ => none
def sNilCheck (x : SV) : Option SO :=
  match x with
  | .ptr b e k => some ⟨.ptr b e k, {}, True⟩
  | .rp row k => some ⟨.rp row k, {}, True⟩
  | .fn (.func f) a b => some ⟨.fn (.func f) a b, {}, True⟩
  | _ => none
def ibits (op : BinOp) (k : IntKind) (x y : Int) : Int :=
  k.wrap (match op with
    | .and => (BitVec.ofInt k.bits x &&& BitVec.ofInt k.bits y).toNat
    | .or => (BitVec.ofInt k.bits x ||| BitVec.ofInt k.bits y).toNat
    | .xor => (BitVec.ofInt k.bits x ^^^ BitVec.ofInt k.bits y).toNat
    | _ => (BitVec.ofInt k.bits x &&& ~~~(BitVec.ofInt k.bits y)).toNat : Nat)
def sInt (op : BinOp) (k : IntKind) (a b : Int) : Option SO :=
  match op with
  | .add => some ⟨.v (.int k (k.wrap (a + b))), {}, True⟩
  | .sub => some ⟨.v (.int k (k.wrap (a - b))), {}, True⟩
  | .mul => some ⟨.v (.int k (k.wrap (a * b))), {}, True⟩
  | .quo => some ⟨.v (.int k (k.wrap (a.tdiv b))), {}, b ≠ 0⟩
  | .rem => some ⟨.v (.int k (a.tmod b)), {}, b ≠ 0⟩
  | .and => some ⟨.v (.int k (ibits .and k a b)), {}, True⟩
  | .or => some ⟨.v (.int k (ibits .or k a b)), {}, True⟩
  | .xor => some ⟨.v (.int k (ibits .xor k a b)), {}, True⟩
  | .andNot => some ⟨.v (.int k (ibits .andNot k a b)), {}, True⟩
  | .eql => some ⟨.v (.bool (decide (a = b))), {}, True⟩
  | .neq => some ⟨.v (.bool (!decide (a = b))), {}, True⟩
  | .lss => some ⟨.v (.bool (decide (a < b))), {}, True⟩
  | .leq => some ⟨.v (.bool (decide (a ≤ b))), {}, True⟩
  | .gtr => some ⟨.v (.bool (decide (b < a))), {}, True⟩
  | .geq => some ⟨.v (.bool (decide (b ≤ a))), {}, True⟩
  | _ => none
def sStr (op : BinOp) (a b : ByteArray) : Option SO :=
  match op with
  | .eql => some ⟨.v (.bool (decide (a = b))), {}, True⟩
  | .neq => some ⟨.v (.bool (!decide (a = b))), {}, True⟩
  | .add => some ⟨.v (.string (a ++ b)), {}, ((a.size + b.size : Nat) : Int) ≤ 9223372036854775807⟩
  | _ => none
def cellEq : SV → SV → Option Bool
  | .v (.int k a), .v (.int k' b) => if k = k' then some (decide (a = b)) else none
  | .v (.bool a), .v (.bool b) => some (decide (a = b))
  | .v (.string a), .v (.string b) => some (decide (a = b))
  | _, _ => none
def cellsEq : List SV → List SV → Option Bool
  | [], [] => some true
  | a :: as, b :: bs => match cellEq a b, cellsEq as bs with
    | some x, some y => some (x && y)
    | _, _ => none
  | _, _ => none
def FlatEq (P : Program) (t : TypeId) (ls ms : List SV) : Prop :=
  P.eqGuardType P.depth t = false ∧
  ∀ (β : Bt) (w : World) (xs ys : Array Value) (b : Bool), RelL β ls xs.toList → RelL β ms ys.toList → cellsEq ls ms = some b → (Op.equal t (.agg xs) (.agg ys)).run P w = .ok b w
def sEqRes (op : BinOp) (b : Bool) (ob : Prop) : Option SO :=
  match op with
  | .eql => some ⟨.v (.bool b), {}, ob⟩
  | .neq => some ⟨.v (.bool (!b)), {}, ob⟩
  | _ => none
def sInt2 (op : BinOp) (k : IntKind) (a : Int) (k' : IntKind) (b : Int) : Option SO :=
  match op with
  | .shl => some ⟨.v (.int k (k.wrap (a * 2 ^ (min b.toNat k.bits)))), {}, 0 ≤ b⟩
  | .shr => some ⟨.v (.int k (a.fdiv (2 ^ (min b.toNat k.bits)))), {}, 0 ≤ b⟩
  | op => if k = k' then sInt op k a b else none
def nilEq (P : Program) (t : TypeId) (x y : SV) : Option Bool :=
  match P.underlying t, x, y with
  | some (.pointer _), .ptr _ _ _, .v (.pointer none) => some false
  | some (.pointer _), .v (.pointer none), .ptr _ _ _ => some false
  | some (.pointer _), .v (.pointer none), .v (.pointer none) => some true
  | some (.interface _), .ifc _ _, .v .nilIface => some false
  | some (.interface _), .v .nilIface, .ifc _ _ => some false
  | some (.func _ _ _), .fn _ _ _, .v .nilFunc => some false
  | _, _, _ => none
def sBin (P : Program) (op : BinOp) (t : TypeId) (x y : SV) : Option SO :=
  match x, y with
  | .v (.int k a), .v (.int k' b) => sInt2 op k a k' b
  | .v (.string a), .v (.string b) => sStr op a b
  | .v (.bool a), .v (.bool b) => match P.underlying t with
    | some .bool => sEqRes op (a == b) True
    | _ => none
  | .agg a, .agg b => match cellsEq a b with
    | some r => sEqRes op r (FlatEq P t a b)
    | none => none
  | x, y => match nilEq P t x y with
    | some r => sEqRes op r True
    | none => none
def sUn (op : UnOp) (x : SV) : Option SO :=
  match op, x with
  | .not, .v (.bool b) => some ⟨.v (.bool (!b)), {}, True⟩
  | .neg, .v (.int k n) => some ⟨.v (.int k (k.wrap (0 - n))), {}, True⟩
  | _, _ => none
def SV.byte : SV → Option Int
  | .v (.int .u8 n) => some n
  | _ => none
def SV.u8 (x : SV) : UInt8 := UInt8.ofNat ((x.byte.getD 0).toNat)
def bytesOfRow (B : SB) (e n : Nat) : List UInt8 := (List.range n).map fun i => (cellAt (B.el (e + i)) 0).u8
def bytesOfRows (rows : List (List SV)) : List UInt8 := rows.map fun r => (cellAt r 0).u8
def isByteRows (rows : List (List SV)) : Prop := ∀ r ∈ rows, ∃ x, r = [.v (.int .u8 x)]
def bytesOfCells (l : List SV) (k n : Nat) : List UInt8 := (List.range n).map fun i => (cellAt l (k + i)).u8
def isByteRow (B : SB) (e n : Nat) : Prop := ∀ i, i < n → ∃ x, B.el (e + i) = [.v (.int .u8 x)]
def isByteCells (l : List SV) (k n : Nat) : Prop := ∀ i, i < n → ∃ x, l[k + i]? = some (.v (.int .u8 x))
def sConv (P : Program) (get : Nat → Option SK) (src dst : TypeId) (x : SV) : Option SO :=
  match x with
  | .v (.int _ n) => match P.underlying src, P.underlying dst with
    | some _, some (.int k) => some ⟨.v (.int k (k.wrap n)), {}, True⟩
    | _, _ => none
  | .v (.string s) => match P.underlying src, P.underlying dst with
    | some _, some .string => some ⟨.v (.string s), {}, True⟩
    | _, _ => none
  | .v (.slice none 0 0) => match P.underlying src, P.underlying dst with
    | some (.slice e), some .string => match P.underlying e with
      | some (.int .u8) => some ⟨.v (.string ByteArray.empty), {}, True⟩
      | _ => none
    | _, _ => none
  | .slc b e n => match P.underlying src, P.underlying dst, get b with
    | some (.slice el), some .string, some (.row B) => match P.underlying el with
      | some (.int .u8) => if B.size = 1 then some ⟨.v (.string ⟨(bytesOfRow B e n).toArray⟩), {}, e + n ≤ B.n ∧ isByteRow B e n⟩ else none
      | _ => none
    | some (.slice _), some (.slice el), some (.row B) => match P.underlying el with
      | some (.int .u8) => if src = dst ∧ B.own = true then some ⟨.slc b e n, { set := some (b, some (.row { B with own := false })) }, 0 < n⟩ else none
      | _ => none
    | _, _, _ => none
  | .asl b e k n => match P.underlying src, P.underlying dst, get b with
    | some (.slice el), some .string, some (.row B) => match P.underlying el with
      | some (.int .u8) => some ⟨.v (.string ⟨(bytesOfCells (B.el e) k n).toArray⟩), {}, e < B.n ∧ isByteCells (B.el e) k n⟩
      | _ => none
    | _, _, _ => none
  | .rsl s rows => match P.underlying src, P.underlying dst with
    | some (.slice el), some .string => match P.underlying el with
      | some (.int .u8) => if s = 1 then some ⟨.v (.string ⟨(bytesOfRows rows).toArray⟩), {}, isByteRows rows⟩ else none
      | _ => none
    | _, _ => none
  | _ => none
def sInt? : SV → Option Int
  | .v (.int _ n) => some n
  | _ => none
def sBound (x : Option SV) (d : Int) : Option Int :=
  match x with
  | none => some d
  | some x => sInt? x
def sSlice (P : Program) (get : Nat → Option SK) (t : TypeId) (x : SV) (lo hi : Option SV) : Option SO :=
  match x with
  | .slc b e n => match P.underlying t, get b, sBound lo 0, sBound hi n with
    | some (.slice elem), some (.row B), some l, some h => if tsz P elem = some B.size then some ⟨.slc b (e + l.toNat) (h - l).toNat, {}, 0 ≤ l ∧ l ≤ h ∧ h ≤ n⟩ else none
    | _, _, _, _ => none
  | .v (.slice none 0 0) => match P.underlying t, sBound lo 0, sBound hi 0 with
    | some (.slice elem), some l, some h => match tsz P elem with
      | some _ => some ⟨.v (.slice none 0 0), {}, l = 0 ∧ h = 0⟩
      | none => none
    | _, _, _ => none
  | .v (.string s) => match P.underlying t, sBound lo 0, sBound hi s.size with
    | some .string, some l, some h => some ⟨.v (.string (s.extract l.toNat h.toNat)), {}, 0 ≤ l ∧ l ≤ h ∧ h ≤ s.size⟩
    | _, _, _ => none
  | .ptr b e k => match P.underlying t, lo, hi with
    | some (.array n elem), none, none => if tsz P elem = some 1 then some ⟨.asl b e k n, {}, True⟩ else none
    | _, _, _ => none
  | .rp row k => match P.underlying t, lo, hi with
    | some (.array n elem), none, none => if tsz P elem = some 1 then some ⟨.rsl 1 (((row.drop k).take n).map fun x => [x]), {}, k + n ≤ row.length⟩ else none
    | _, _, _ => none
  | .rsl s rows => match P.underlying t, sBound lo 0, sBound hi rows.length with
    | some (.slice elem), some l, some h => if tsz P elem = some s then some ⟨.rsl s ((rows.take h.toNat).drop l.toNat), {}, 0 ≤ l ∧ l ≤ h ∧ h ≤ rows.length⟩ else none
    | _, _, _ => none
  | _ => none
def sSlice3 (P : Program) (t : TypeId) (x : SV) (lo hi mx : Option SV) : Option SO :=
  match x, hi with
  | .rsl s rows, some hi => match P.underlying t, sBound lo 0, sInt? hi, sBound mx rows.length with
    | some (.slice elem), some l, some h, some m => if tsz P elem = some s then some ⟨.rsl s ((rows.take h.toNat).drop l.toNat), {}, 0 ≤ l ∧ l ≤ h ∧ h ≤ m ∧ m ≤ rows.length⟩ else none
    | _, _, _, _ => none
  | _, _ => none
def sFieldAddr (P : Program) (s : TypeId) (x : SV) (f : Nat) : Option SO :=
  match x, tfield P s f with
  | .ptr b e k, some (_, off, n) => if n ≠ 0 then some ⟨.ptr b e (k + off), {}, True⟩ else none
  | .rp row k, some (_, off, n) => if n ≠ 0 then some ⟨.rp row (k + off), {}, True⟩ else none
  | _, _ => none
def sField (P : Program) (s : TypeId) (x : SV) (f : Nat) : Option SO :=
  match x, tfield P s f with
  | .agg l, some (ft, off, n) => match tagg P ft with
    | some g => if off + n ≤ l.length ∧ (g = false → n = 1) then some ⟨spart g l off n, {}, True⟩ else none
    | none => none
  | _, _ => none
def sIndexAddr (P : Program) (get : Nat → Option SK) (t : TypeId) (x i : SV) : Option SO :=
  match sInt? i with
  | none => none
  | some i => match x with
    | .slc b e n => match P.underlying t, get b with
      | some (.slice elem), some (.row B) => if tsz P elem = some B.size then some ⟨.ptr b (e + i.toNat) 0, {}, 0 ≤ i ∧ i < n⟩ else none
      | _, _ => none
    | .asl b e k n => match P.underlying t with
      | some (.slice elem) => if tsz P elem = some 1 then some ⟨.ptr b e (k + i.toNat), {}, 0 ≤ i ∧ i < n⟩ else none
      | _ => none
    | .ptr b e k => match P.underlying t with
      | some (.array n elem) => match tsz P elem with
        | some s => some ⟨.ptr b e (k + i.toNat * s), {}, 0 ≤ i ∧ i < n⟩
        | none => none
      | _ => none
    | .rp row k => match P.underlying t with
      | some (.array n elem) => match tsz P elem with
        | some s => some ⟨.rp row (k + i.toNat * s), {}, 0 ≤ i ∧ i < n⟩
        | none => none
      | _ => none
    | .rsl s rows => match P.underlying t with
      | some (.slice elem) => if tsz P elem = some s then some ⟨.rp (rows.getD i.toNat []) 0, {}, 0 ≤ i ∧ i < rows.length⟩ else none
      | _ => none
    | _ => none
def strAt (s : ByteArray) (i : Nat) : Int := ((s.data[i]?).getD 0).toNat
def sIndex (P : Program) (t : TypeId) (x i : SV) : Option SO :=
  match sInt? i with
  | none => none
  | some i => match x with
    | .agg l => match P.underlying t with
      | some (.array n elem) => match tsz P elem, tagg P elem with
        | some s, some g => if l.length = n * s ∧ (g = false → s = 1) then some ⟨spart g l (i.toNat * s) s, {}, 0 ≤ i ∧ i < n⟩ else none
        | _, _ => none
      | _ => none
    | .v (.string s) => match P.underlying t with
      | some .string => some ⟨.v (.int .u8 (strAt s i.toNat)), {}, 0 ≤ i ∧ i < s.size⟩
      | _ => none
    | _ => none
def sRange (P : Program) (N : Nat) (t : TypeId) (x : SV) : Option SO :=
  match x with
  | .v (.string s) => match P.underlying t with
    | some .string => some ⟨.ptr N 0 0, { new := some (.it s 0) }, True⟩
    | _ => none
  | _ => none
def sNext (get : Nat → Option SK) (x : SV) (isString : Bool) : Option SO :=
  match x, isString with
  | .ptr b 0 0, true => match get b with
    | some (.it s pos) => some ⟨.tup [.v (.bool (decide (pos < s.size))), if pos < s.size then .v (.int .i64 pos) else .any, if pos < s.size then .v (.int .i32 (Utf8.decode s pos).1) else .any],
        { set := some (b, some (.it s (if pos < s.size then pos + (Utf8.decode s pos).2 else pos))) }, True⟩
    | _ => none
  | _, _ => none
def sExtract (x : SV) (i : Nat) : Option SO :=
  match x with
  | .tup l => match l[i]? with
    | some .any => none
    | some y => some ⟨y, {}, True⟩
    | none => none
  | _ => none
def sMakeIface (P : Program) (t : TypeId) (x : SV) : Option SO :=
  match P.underlying t with
  | some (.interface _) => none
  | some _ => some ⟨.ifc t x, {}, True⟩
  | none => none
def sLen (P : Program) (t : TypeId) (x : SV) : Option SO :=
  match P.underlying t, x with
  | some .string, .v (.string s) => some ⟨.v (.int .i64 s.size), {}, True⟩
  | some (.array n _), _ => some ⟨.v (.int .i64 n), {}, True⟩
  | some (.slice _), .slc _ _ n => some ⟨.v (.int .i64 n), {}, True⟩
  | some (.slice _), .asl _ _ _ n => some ⟨.v (.int .i64 n), {}, True⟩
  | some (.slice _), .rsl _ rows => some ⟨.v (.int .i64 rows.length), {}, True⟩
  | some (.slice _), .v (.slice _ n _) => some ⟨.v (.int .i64 n), {}, True⟩
  | _, _ => none
def sMin (x y : SV) : Option SO :=
  match x, y with
  | .v (.int k a), .v (.int _ b) => some ⟨.v (.int k (if b < a then b else a)), {}, True⟩
  | _, _ => none
def sMax (x y : SV) : Option SO :=
  match x, y with
  | .v (.int k a), .v (.int _ b) => some ⟨.v (.int k (if b > a then b else a)), {}, True⟩
  | _, _ => none
structure Src where
  n : Nat
  el : Nat → List SV
  ob : Prop
def sSrc (get : Nat → Option SK) (size : Nat) (x : SV) : Option Src :=
  match x with
  | .v (.slice none 0 0) => some ⟨0, fun _ => [], True⟩
  | .v (.string s) => if size = 1 then some ⟨s.size, fun i => [.v (.int .u8 (strAt s i))], True⟩ else none
  | .slc b e n => match get b with
    | some (.row B) => if B.size = size then some ⟨n, fun i => B.el (e + i), e + n ≤ B.n⟩ else none
    | _ => none
  | .asl b e k n => match get b with
    | some (.row B) => if size = 1 then some ⟨n, fun i => [cellAt (B.el e) (k + i)], e < B.n ∧ k + n ≤ B.size⟩ else none
    | _ => none
  | .rsl s rows => if s = size then some ⟨rows.length, fun i => rows.getD i [], True⟩ else none
  | _ => none
def sDst (get : Nat → Option SK) (size : Nat) (elem : TypeId) (x : SV) : Option (Nat × (Nat → List SV) × Option Nat × Prop) :=
  match x with
  | .v (.slice none 0 0) => some (0, fun _ => [], none, True)
  | .slc b 0 n => match get b with
    | some (.row B) => if B.size = size ∧ B.own = true ∧ B.ty = elem then some (n, B.el, some b, n ≤ B.n) else none
    | _ => none
  | _ => none
def srcTy : TypeDesc → Bool
  | .slice _ | .string => true
  | _ => false
def sAppend (P : Program) (N : Nat) (get : Nat → Option SK) (t t2 : TypeId) (x y : SV) : Option SO :=
  match P.underlying t, P.underlying t2 with
  | some (.slice elem), some d2 => match tsz P elem, tby P elem, tzero P elem with
    | some s, some by_, some zs => match sDst get s elem x, sSrc get s y with
      | some (n, f, b, ob1), some src =>
        if 0 < s ∧ 0 < by_ ∧ zs.length = s ∧ srcTy d2 = true then
          some ⟨.slc N 0 (n + src.n), { set := b.map fun b => (b, none), new := some (.row ⟨s, n + src.n, true, elem, fun i => if i < n then f i else src.el (i - n)⟩) },
            ob1 ∧ src.ob ∧ (n + src.n) * by_ ≤ 140737488355328⟩
        else none
      | _, _ => none
    | _, _, _ => none
  | _, _ => none
def sCopy (P : Program) (get : Nat → Option SK) (t : TypeId) (x y : SV) : Option SO :=
  match x, y with
  | .asl b e k n, .rsl 1 rows => match P.underlying t, get b with
    | some (.slice elem), some (.row B) => if tsz P elem = some 1 ∧ B.own = true then
        some ⟨.v (.int .i64 (Nat.min rows.length n : Nat)), { set := some (b, some (.row (B.upd e k ((rows.take (Nat.min rows.length n)).map fun r => cellAt r 0)))) }, e < B.n ∧ k + n ≤ B.size⟩ else none
    | _, _ => none
  | _, _ => none
end Go.SL
