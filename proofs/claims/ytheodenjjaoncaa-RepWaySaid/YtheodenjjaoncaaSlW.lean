/- The twenty-second part of the layer: operations that 'sop' does not know: make of a slice. -/
import Derived.Test.YtheodenjjaoncaaSlV
import Derived.Laws.MakeOwn
set_option linter.unusedVariables false
set_option linter.unusedSimpArgs false
namespace Go.SL
open Go
section
variable {P : Program} {Q : SX → St → Prop} {K : List It} {s : St}
/-- One operation, by what it does. -/
theorem SemOps.ofDoes {all rest : List Oper} {op : Oper} {r : SO} (hg : op.guard = none)
    (h : ∀ ρ w β, Loc w β s.L.length (getL s.L) → (∀ x, RelV β (seval s.env x) (ρ x)) → Does P op ρ w β s.L.length (getL s.L) r)
    (hd : dstOk s op.dst) (next : SemOps P Q all rest K (s.step op.dst r)) : SemOps P Q all (op :: rest) K s := by
  intro o β a w hr
  unfold wpList
  rw [if_pos (by simp [Region.wanted, hg])]
  obtain ⟨nx, y, w', β', hrun, hnx, hy, hout, _⟩ := h a.eval w β (loc_of hr) (fun x => eval_rel hr x)
  have hr' := hr.step hd hy hout
  left
  unfold Oper.wp
  rw [hrun]
  rcases hnx with rfl | ⟨rfl, rfl⟩
  · exact next o β' _ w' hr'
  · exact next o β' _ w' hr'
theorem sop_make (N : Nat) (get : Nat → Option SK) (ev : Operand → SV) (t : TypeId) (l c : Operand) : sop P N get ev (.makeSlice t l c) = none := rfl
theorem mod_get (zs : List Value) (s : Nat) (hs : zs.length = s) (hp : 0 < s) (n i : Nat) (hi : i < n * s) (z : Array Value) (hz : z.toList = zs) : (madeCells z (n * s))[i]? = some (zs.getD (i % s) undef) := by
  have hsz : z.size = s := by rw [← Array.length_toList, hz, hs]
  have hm : i % s < z.size := by rw [hsz]; exact Nat.mod_lt _ hp
  unfold madeCells
  rw [Array.getElem?_map, Array.getElem?_range, if_pos hi, Option.map_some, hsz]
  rw [getElem!_pos z (i % s) (by rwa [hsz] at hm ⊢)]
  rw [← hz, List.getD_eq_getElem?_getD, Array.getElem?_toList]
  simp [hsz, Nat.mod_lt _ hp]
theorem does_make {w : World} {β : Bt} {N : Nat} {get : Nat → Option SK} {ρ : Operand → Value} (H : Loc w β N get) {dst : Option Tmp} {t e : TypeId} {l c : Operand} {ty : TypeId} {pos : String} {af : Array Edge} {g : Option (Nat × Bool)} {sz by_ n : Nat} {kl kc : IntKind} {zs : List Value}
    (hu : P.underlying t = some (.slice e)) (he : ElTy P e sz by_) (hz : tzero P e = some zs) (hone : zs.all (·.oneCell') = true) (hl : ρ l = .int kl (n : Int)) (hc : ρ c = .int kc (n : Int)) (hb : by_ * n ≤ 281474976710656) :
    Does P ⟨dst, .makeSlice t l c, ty, pos, af, g⟩ ρ w β N get ⟨.slc N 0 n, { new := some (.row ⟨sz, n, true, e, fun _ => zs.map .v⟩) }, True⟩ := by
  obtain ⟨hs, hby, ⟨zs', hz', hzl⟩, hp1, hp2⟩ := he
  rw [hz] at hz'
  cases hz'
  unfold tsz at hs
  unfold tby at hby
  obtain ⟨i, hi, hsi⟩ := Option.map_eq_some_iff.1 hs
  rw [hi] at hby
  simp only [Option.map_some, Option.some.injEq] at hby
  unfold tzero at hz
  rw [hi, Option.bind_some] at hz
  obtain ⟨z, hzz, hzc⟩ := Option.map_eq_some_iff.1 hz
  subst hsi
  subst hby
  have hn : n ≤ 281474976710656 := by
    have : 1 * n ≤ i.bytes * n := Nat.mul_le_mul_right _ hp2
    omega
  have hr := run_make (P := P) w t e i z hu hi hzz kl kc (n : Int) (n : Int) (by omega) (Int.le_refl _) (by
    have h : ((i.bytes * n : Nat) : Int) ≤ 281474976710656 := by omega
    rwa [Int.natCast_mul] at h) (by omega)
  simp only [Int.toNat_natCast] at hr
  refine ⟨.value (.slice (some ⟨w.heap.size, 0, none⟩) n n), _, w.alloc (.cells (madeCells z.cells (n * i.size)) e), β.put N ⟨w.heap.size, 0, i.size, n⟩, ?_, .inl rfl, ⟨⟨w.heap.size, 0, i.size, n⟩, _, n, Bt.put_same .., rfl, Nat.le_refl _, .inr ⟨by simp, by simp⟩⟩, ?_, fun h => (nomatch h)⟩
  · simp only [execOp, hl, hc, Sem.run_bind, hr, Result.andThen_ok]
    rfl
  · refine Out.row H.new rfl rfl rfl rfl _ i.size n n e (fun _ => zs.map .v) true (Nat.le_refl _) (size_madeCells _ _) (by simp [maxLen]; omega) (fun e' he' => ?_) none (fun _ _ h => (nomatch h))
    refine ⟨by simpa using hzl, fun j x hx => ?_⟩
    have hj : j < i.size := by
      have := (List.getElem?_eq_some_iff.1 hx).1
      simp at this
      omega
    have hlt : e' * i.size + j < n * i.size := by
      have : (e' + 1) * i.size ≤ n * i.size := Nat.mul_le_mul_right _ he'
      rw [Nat.add_mul] at this
      omega
    rw [List.getElem?_map] at hx
    obtain ⟨v, hv, rfl⟩ := Option.map_eq_some_iff.1 hx
    refine ⟨v, ?_, ?_, rfl⟩
    · rw [mod_get zs i.size hzl hp1 n _ hlt z.cells hzc, Nat.mul_add_mod_of_lt hj, List.getD_eq_getElem?_getD, hv, Option.getD_some]
    · exact (List.all_eq_true.1 hone) v (List.mem_of_getElem? hv)
theorem SemOps.make {all rest : List Oper} {dst : Option Tmp} {t e : TypeId} {l c : Operand} {ty : TypeId} {pos : String} {af : Array Edge} {sz by_ : Nat} {kl kc : IntKind} {zs : List Value} (n : Nat)
    (hu : P.underlying t = some (.slice e)) (he : ElTy P e sz by_) (hz : tzero P e = some zs) (hone : zs.all (·.oneCell') = true) (hl : seval s.env l = .v (.int kl (n : Int))) (hc : seval s.env c = .v (.int kc (n : Int))) (hb : by_ * n ≤ 281474976710656)
    (hd : dstOk s dst) (next : SemOps P Q all rest K (s.step dst ⟨.slc s.L.length 0 n, { new := some (.row ⟨sz, n, true, e, fun _ => zs.map .v⟩) }, True⟩)) : SemOps P Q all (⟨dst, .makeSlice t l c, ty, pos, af, none⟩ :: rest) K s :=
  SemOps.ofDoes rfl (fun ρ w β H hev => does_make H hu he hz hone (by have := hev l; rw [hl] at this; exact this) (by have := hev c; rw [hc] at this; exact this) hb) hd next
end
end Go.SL
