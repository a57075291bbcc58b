/- Contracts of functions that the laws reach, on abstract values, and what they need: no conditions but those that each theorem states. -/
import Derived.Test.YtheodenjjaoncaaSlF
import Derived.Deep.LoopGhost
set_option linter.unusedVariables false
set_option linter.unusedSimpArgs false
set_option linter.defProp false
namespace Go.SL
open Go
set_option linter.unusedVariables false
set_option linter.unusedSimpArgs false
def sOfVal : Value → SV
  | .agg cs => .agg (cs.toList.map .v)
  | z => .v z
def sZero (P : Program) (t : TypeId) : Option SV := (P.info? t).bind fun i => i.zero.map sOfVal
def sAssert (P : Program) (x : SV) (A : TypeId) (ok : Bool) : Option SO :=
  match P.underlying A with
  | some (.interface _) => none
  | some _ => match x with
    | .ifc t v => if t = A then some ⟨if ok = true then .tup [v, .v (.bool true)] else v, {}, True⟩
      else if ok = true then (sZero P A).map fun z => ⟨.tup [z, .v (.bool false)], {}, True⟩ else none
    | .v .nilIface => if ok = true then (sZero P A).map fun z => ⟨.tup [z, .v (.bool false)], {}, True⟩ else none
    | _ => none
  | none => none
def sop (P : Program) (N : Nat) (get : Nat → Option SK) (ev : Operand → SV) (o : Op) : Option SO :=
  match o with
  | .move x => some ⟨ev x, {}, True⟩
  | .assign x => some ⟨ev x, {}, True⟩
  | .pick c a b => match ev c with
    | .v (.bool x) => some ⟨bif x then ev a else ev b, {}, True⟩
    | _ => none
  | .alloc t => sAlloc P N t
  | .box t x => sBox N t (ev x)
  | .build t parts => sBuild P t (parts.toList.map fun q => (q.1, ev q.2))
  | .buildSlice t n parts => sBuildSlice P N t n (parts.toList.map fun q => (q.1, ev q.2))
  | .load t x => sLoad P get t (ev x)
  | .store t x y => sStore P get t (ev x) (ev y)
  | .nilCheck x => sNilCheck (ev x)
  | .binOp op t x y _ => sBin P op t (ev x) (ev y)
  | .unOp op _ x => sUn op (ev x)
  | .convert s d x => sConv P get s d (ev x)
  | .slice t x lo hi none => sSlice P get t (ev x) (lo.map ev) (hi.map ev)
  | .slice t x lo hi (some mx) => sSlice3 P t (ev x) (lo.map ev) (hi.map ev) (some (ev mx))
  | .fieldAddr s x f => sFieldAddr P s (ev x) f
  | .field s x f => sField P s (ev x) f
  | .indexAddr t x i => sIndexAddr P get t (ev x) (ev i)
  | .index t x i => sIndex P t (ev x) (ev i)
  | .range t x => sRange P N t (ev x)
  | .next x b => sNext get (ev x) b
  | .extract x i => sExtract (ev x) i
  | .makeInterface t x => sMakeIface P t (ev x)
  | .makeFunc f fi ca => some ⟨.fn f (fi.toList.map ev) (ca.toList.map ev), {}, True⟩
  | .typeAssert x _ A ok => sAssert P (ev x) A ok
  | .call ⟨.builtin .len, args, ats⟩ => match args.toList, ats.toList with
    | [x], [t] => sLen P t (ev x)
    | _, _ => none
  | .call ⟨.builtin .append, args, ats⟩ => match args.toList, ats.toList with
    | [x, y], [t, t2] => sAppend P N get t t2 (ev x) (ev y)
    | _, _ => none
  | .call ⟨.builtin .copy, args, ats⟩ => match args.toList, ats.toList with
    | [x, y], [t, _] => sCopy P get t (ev x) (ev y)
    | _, _ => none
  | .call ⟨.builtin .min, args, _⟩ => match args.toList with
    | [x, y] => sMin (ev x) (ev y)
    | _ => none
  | .call ⟨.builtin .max, args, _⟩ => match args.toList with
    | [x, y] => sMax (ev x) (ev y)
    | _ => none
  | _ => none
section
variable {P : Program} {ρ : Operand → Value} {w : World} {β : Bt} {N : Nat} {get : Nat → Option SK} {ev : Operand → SV}
variable {dst : Option Tmp} {ty : TypeId} {pos : String} {af : Array Edge} {g : Option (Nat × Bool)}
theorem relP_map (hev : ∀ x, RelV β (ev x) (ρ x)) : ∀ (l : List (Nat × Operand)), RelP β (l.map fun q => (q.1, ev q.2)) (l.map fun q => (q.1, ρ q.2))
  | [] => rfl
  | (i, x) :: l => ⟨ρ x, _, rfl, hev x, relP_map hev l⟩
theorem relL_map (hev : ∀ x, RelV β (ev x) (ρ x)) : ∀ (l : List Operand), RelL β (l.map ev) (l.map ρ)
  | [] => rfl
  | x :: l => ⟨ρ x, _, rfl, hev x, relL_map hev l⟩
theorem sOfVal_rel (v : Value) : RelV β (sOfVal v) v := by
  cases v <;> first | rfl | exact ⟨_, rfl, RelL.vals _⟩
theorem sZero_run {t : TypeId} {z : SV} (h : sZero P t = some z) : ∃ v, (∀ w, (zeroValue t).run P w = .ok v w) ∧ RelV β z v := by
  unfold sZero at h
  cases hi : P.info? t with
  | none => simp [hi] at h
  | some i =>
    cases hz : i.zero with
    | none => simp [hi, hz] at h
    | some v =>
      simp only [hi, Option.bind_some, hz, Option.map_some, Option.some.injEq] at h
      subst h
      exact ⟨v, fun w => by simp [zeroValue, typeInfo, hi, hz], sOfVal_rel v⟩
theorem does_assert {t A : TypeId} {x : Operand} {ok : Bool} {sx : SV} (hx : RelV β sx (ρ x)) {r : SO} (h : sAssert P sx A ok = some r) : Does P ⟨dst, .typeAssert x t A ok, ty, pos, af, g⟩ ρ w β N get r := by
  unfold sAssert at h
  split at h
  · cases h
  · rename_i d hni hu
    have hrun : ∀ {v : Value}, (∀ w, (match d, ρ x with
        | .interface _, _ => (stuck "" : Sem Value)
        | _, .nilIface => if ok = true then (do pure (.tuple #[← zeroValue A, .bool false])) else stuck ""
        | _, .iface t' v' => if t' = A then pure (if ok = true then .tuple #[v', .bool true] else v') else if ok = true then (do pure (.tuple #[← zeroValue A, .bool false])) else stuck ""
        | _, _ => stuck "").run P w = .ok v w) → ∀ w1, Ext w β get w1 → (execOp ρ ⟨dst, .typeAssert x t A ok, ty, pos, af, g⟩).run P w1 = .ok (.value v) w1 := by
      intro v hv' w1 _
      have hv := hv' w1
      clear hv'
      simp only [execOp, Instr.typeAssert, Sem.run_bind, run_underlying hu, Result.andThen_ok]
      cases d <;> first
        | exact absurd rfl (hni _)
        | (generalize ρ x = u at hv ⊢
           cases u <;> simp only [run_stuck, reduceCtorEq] at hv ⊢
           · split at hv
             · rename_i e; rw [if_pos e]; cases ok <;> simp_all
             · rename_i e
               rw [if_neg e]
               cases ok
               · simp at hv
               · simp only [if_true, Sem.run_bind] at hv ⊢
                 rw [hv]
                 rfl
           · cases ok
             · simp at hv
             · simp only [if_true, Sem.run_bind] at hv ⊢
               rw [hv]
               rfl)
    split at h
    · rename_i t' v
      obtain ⟨u, hxe, hu'⟩ := hx
      split at h
      · rename_i e
        cases h
        subst e
        refine Does.quiet (y := if ok = true then .tuple #[u, .bool true] else u) (hrun fun w => ?_) ?_
        · rw [hxe]; cases d <;> first | exact absurd rfl (hni _) | simp
        · cases ok
          · exact hu'
          · exact ⟨_, rfl, .inr ⟨_, _, rfl, hu'⟩, .inr ⟨_, _, rfl, rfl⟩, trivial⟩
      · rename_i e
        split at h
        · rename_i hok
          subst hok
          obtain ⟨z, hz, rfl⟩ := Option.map_eq_some_iff.1 h
          obtain ⟨v', h1, h2⟩ := sZero_run (β := β) hz
          refine Does.quiet (y := .tuple #[v', .bool false]) (hrun fun w => ?_) ⟨_, rfl, .inr ⟨_, _, rfl, h2⟩, .inr ⟨_, _, rfl, rfl⟩, trivial⟩
          rw [hxe]; cases d <;> first | exact absurd rfl (hni _) | simp [e, h1]
        · cases h
    · obtain hx : ρ x = _ := hx
      split at h
      · rename_i hok
        subst hok
        obtain ⟨z, hz, rfl⟩ := Option.map_eq_some_iff.1 h
        obtain ⟨v', h1, h2⟩ := sZero_run (β := β) hz
        refine Does.quiet (y := .tuple #[v', .bool false]) (hrun fun w => ?_) ⟨_, rfl, .inr ⟨_, _, rfl, h2⟩, .inr ⟨_, _, rfl, rfl⟩, trivial⟩
        rw [hx]; cases d <;> first | exact absurd rfl (hni _) | simp [h1]
      · cases h
    · cases h
  · cases h
theorem sop_does (H : Loc w β N get) (hev : ∀ x, RelV β (ev x) (ρ x)) {o : Op} {r : SO} (h : sop P N get ev o = some r) (ho : r.ob) : Does P ⟨dst, o, ty, pos, af, g⟩ ρ w β N get r := by
  unfold sop at h
  split at h
  · cases h; exact does_move (hev _)
  · cases h; exact does_assign (hev _)
  · rename_i c a b
    split at h
    · rename_i x hc
      cases h
      have := hev c
      rw [hc] at this
      exact does_pick this (hev a) (hev b)
    · cases h
  · exact does_alloc H h
  · exact does_box H (hev _) h
  · exact does_build (by simpa using relP_map hev _) h
  · exact does_buildSlice H (by simpa using relP_map hev _) h
  · exact does_load H (hev _) h ho
  · exact does_store H (hev _) (hev _) h ho
  · exact does_nilCheck (hev _) h
  · exact does_bin (hev _) (hev _) h ho
  · exact does_un (hev _) h
  · exact does_conv H (hev _) h ho
  · exact does_slice H (hev _) (fun o e => by subst e; exact ⟨_, rfl, hev o⟩) (fun e => by subst e; rfl) (fun o e => by subst e; exact ⟨_, rfl, hev o⟩) (fun e => by subst e; rfl) h ho
  · exact does_slice3 (hev _) (fun o e => by subst e; exact ⟨_, rfl, hev o⟩) (fun e => by subst e; rfl) (fun o e => by subst e; exact ⟨_, rfl, hev o⟩) (fun e => by subst e; rfl) rfl (hev _) h ho
  · exact does_fieldAddr (hev _) h
  · exact does_field (hev _) h
  · exact does_indexAddr H (hev _) (hev _) h ho
  · exact does_index (hev _) (hev _) h ho
  · exact does_range H (hev _) h
  · exact does_next H (hev _) h
  · exact does_extract (hev _) h
  · exact does_makeIface (hev _) h
  · rename_i f fi ca
    cases h
    refine Does.quiet (y := .func f (fi.map ρ) (ca.map ρ)) (fun w1 _ => by simp [execOp, Instr.makeFunc]) ⟨_, _, rfl, ?_, ?_⟩
    · simpa using relL_map hev fi.toList
    · simpa using relL_map hev ca.toList
  · exact does_assert (hev _) h
  · rename_i args ats
    split at h
    · rename_i x t ha hat
      have e1 : args = #[x] := by rw [← Array.toArray_toList (xs := args), ha]
      subst e1
      refine does_len (hev x) ?_ h
      have : ats[0]? = ats.toList[0]? := by simp
      rw [this, hat]; rfl
    · cases h
  · rename_i args ats
    split at h
    · rename_i x y t t2 ha hat
      have e1 : args = #[x, y] := by rw [← Array.toArray_toList (xs := args), ha]
      have e2 : ats = #[t, t2] := by rw [← Array.toArray_toList (xs := ats), hat]
      subst e1
      subst e2
      exact does_append H (hev x) (hev y) h ho
    · cases h
  · rename_i args ats
    split at h
    · rename_i x y t t2 ha hat
      have e1 : args = #[x, y] := by rw [← Array.toArray_toList (xs := args), ha]
      have e2 : ats = #[t, t2] := by rw [← Array.toArray_toList (xs := ats), hat]
      subst e1
      subst e2
      exact does_copy H (hev x) (hev y) h ho
    · cases h
  · rename_i args ats
    split at h
    · rename_i x y ha
      have e1 : args = #[x, y] := by rw [← Array.toArray_toList (xs := args), ha]
      subst e1
      exact does_min (hev x) (hev y) h
    · cases h
  · rename_i args ats
    split at h
    · rename_i x y ha
      have e1 : args = #[x, y] := by rw [← Array.toArray_toList (xs := args), ha]
      subst e1
      exact does_max (hev x) (hev y) h
    · cases h
  · cases h
end
end Go.SL
