/- Contracts of functions that the laws reach, on abstract values, and what they need: no conditions but those that each theorem states. -/
import Derived.Test.YtheodenjjaoncaaSlD
set_option linter.unusedVariables false
set_option linter.unusedSimpArgs false
set_option linter.defProp false
namespace Go.SL
open Go
set_option linter.unusedVariables false
set_option linter.unusedSimpArgs false
section
variable {P : Program} {ρ : Operand → Value} {w : World} {β : Bt} {N : Nat} {get : Nat → Option SK}
variable {dst : Option Tmp} {ty : TypeId} {pos : String} {af : Array Edge} {g : Option (Nat × Bool)}
theorem foldl_push_aux (ns : List Int) : ∀ (l : List UInt8), ns.foldl (fun r n => r.push (UInt8.ofNat n.toNat)) (⟨l.toArray⟩ : ByteArray) = ⟨(l ++ ns.map fun n => UInt8.ofNat n.toNat).toArray⟩ := by
  induction ns with
  | nil => intro l; simp
  | cons n ns ih =>
    intro l
    rw [List.foldl_cons]
    have : (⟨l.toArray⟩ : ByteArray).push (UInt8.ofNat n.toNat) = ⟨(l ++ [UInt8.ofNat n.toNat]).toArray⟩ := by
      simp [ByteArray.push]
    rw [this, ih]
    simp
theorem foldl_push (ns : List Int) : ns.foldl (fun r n => r.push (UInt8.ofNat n.toNat)) ByteArray.empty = ⟨(ns.map fun n => UInt8.ofNat n.toNat).toArray⟩ := by
  have := foldl_push_aux ns []
  rw [List.nil_append] at this
  exact this
theorem freeze_cell {g n : Nat} {cs : Array Value} {t : TypeId} {fr : Nat × Nat} (h : w.heap[g]? = some (.cells cs t fr)) (a : Addr) : (w.freeze ⟨g, n, none⟩ 1).cell? a = w.cell? a := by
  by_cases hb : g = a.block
  · subst hb
    have : (w.freeze ⟨a.block, n, none⟩ 1).heap[a.block]? = some (.cells cs t (if fr.1 == fr.2 then (n, n + 1) else (min fr.1 n, max fr.2 (n + 1)))) := by
      simp only [World.freeze, Nat.succ_ne_self, if_false, Array.getElem?_modify, if_true, h, Option.map_some]
    unfold World.cell?
    rw [this, h]
  · apply cell_congr
    simp only [World.freeze, Nat.succ_ne_self, if_false, Array.getElem?_modify, if_neg hb]
theorem run_bytes {a : Option Addr} {n c : Nat} (f : Nat → Int) (hn : n = 0 ∨ ∃ ad, a = some ad ∧ ∀ j, j < n → w.cell? (ad.add j) = some (.int .u8 (f j))) (w1 : World) (hw1 : n = 0 ∨ ∀ ad, a = some ad → w1.heap[ad.block]? = w.heap[ad.block]?) :
    (Conv.bytesToString (.slice a n c)).run P w1 = .ok (.string ⟨((List.range n).map fun i => UInt8.ofNat (f i).toNat).toArray⟩) w1 := by
  cases a with
  | none =>
    rcases hn with rfl | ⟨ad, h, _⟩
    · simp [Conv.bytesToString]; rfl
    · cases h
  | some ad =>
    have hl : (loadCells ad n).run P w1 = .ok (((List.range n).map f).map (Value.int .u8)).toArray w1 := by
      have := run_loadCells (P := P) w1 ad n (fun j => Value.int .u8 (f j)) (fun j hj => by
        rcases hn with rfl | ⟨ad', h, hc⟩
        · omega
        · cases h
          rcases hw1 with h0 | h0
          · omega
          · exact (cell_congr (by rw [show (ad.add j).block = ad.block by unfold Addr.add; split <;> rfl]; exact h0 _ rfl)).trans (hc j hj))
      rw [this]
      simp [List.map_map, Function.comp_def]
    rw [run_bytesToString w1 ad n c _ hl, foldl_push]
    simp [List.map_map, Function.comp_def]
theorem byte_cell {p : Pl} {B : SB} (hB : RelB w β p B) (hs : B.size = 1) {e i : Nat} (he : e + i < B.n) {x : Int} (hx : B.el (e + i) = [.v (.int .u8 x)]) : w.cell? ((⟨p.blk, p.off + e * p.size, none⟩ : Addr).add i) = some (.int .u8 x) := by
  obtain ⟨r1, r2, r3, r4⟩ := hB
  obtain ⟨y, h1, _, h3⟩ := (r3 (e + i) he).2 0 (.v (.int .u8 x)) (by rw [hx]; rfl)
  obtain rfl : y = .int .u8 x := h3
  rw [add_plain, ← h1]
  congr 2
  rw [r1, hs]
  omega
theorem does_conv (H : Loc w β N get) {src d : TypeId} {x : Operand} {sx : SV} (hx : RelV β sx (ρ x)) {r : SO} (h : sConv P get src d sx = some r) (ho : r.ob) : Does P ⟨dst, .convert src d x, ty, pos, af, g⟩ ρ w β N get r := by
  unfold sConv at h
  split at h
  · rename_i k n
    obtain hx : ρ x = _ := hx
    split at h
    · rename_i d1 k' h1 h2
      cases h
      refine Does.quiet (y := .int k' (k'.wrap n)) (fun w1 hw1 => ?_) rfl
      simp [execOp, hx, convert, run_underlying h1, run_underlying h2, Conv.intToInt]
    · cases h
  · rename_i s
    obtain hx : ρ x = _ := hx
    split at h
    · rename_i d1 h1 h2
      cases h
      refine Does.quiet (y := .string s) (fun w1 hw1 => ?_) rfl
      simp [execOp, hx, convert, run_underlying h1, run_underlying h2]
    · cases h
  · obtain hx : ρ x = _ := hx
    split at h
    · rename_i e h1 h2
      split at h
      · rename_i h3
        cases h
        refine Does.quiet (y := .string ByteArray.empty) (fun w1 hw1 => ?_) rfl
        simp [execOp, hx, convert, run_underlying h1, run_underlying h2, run_underlying h3, Conv.bytesToString]
      · cases h
    · cases h
  · rename_i b e n
    obtain ⟨p, a, c, hp, hxe, hnc, hc⟩ := hx
    split at h
    · rename_i el B h1 h2 hg
      split at h
      · rename_i h3
        split at h
        · rename_i hs
          cases h
          obtain ⟨q, hq, rk, _⟩ := H.blk b _ hg
          rw [hp] at hq
          cases hq
          refine Does.quiet (y := .string ⟨(bytesOfRow B e n).toArray⟩) (fun w1 hw1 => ?_) rfl
          have hrun := run_bytes (P := P) (w := w) (a := a) (n := n) (c := c) (fun i => ((cellAt (B.el (e + i)) 0).byte).getD 0) (by
            rcases Nat.eq_zero_or_pos n with h0 | h0
            · exact .inl h0
            · rcases hc with hc | ⟨ha, _⟩
              · omega
              · refine .inr ⟨_, ha, fun j hj => ?_⟩
                obtain ⟨v, hv⟩ := ho.2 j hj
                rw [byte_cell rk hs (by have := ho.1; omega) hv, hv]
                rfl)
          simp only [execOp, hxe, convert, Sem.run_bind, run_underlying h1, run_underlying h2, run_underlying h3, Result.andThen_ok, hrun w1 (by
            rcases Nat.eq_zero_or_pos n with h0 | h0
            · exact .inl h0
            · right
              intro ad had
              rcases hc with hc | ⟨ha, hcc⟩
              · omega
              · rw [ha] at had
                cases had
                exact hw1.b b _ p hg hp (by omega)), Sem.run_pure]
          rfl
        · cases h
      · cases h
    · rename_i el el2 B h1 h2 hg
      split at h
      · rename_i h3
        split at h
        · rename_i hs
          cases h
          obtain ⟨rfl, hown⟩ := hs
          have hn : 0 < n := ho
          obtain rfl : el = el2 := by rw [h1] at h2; cases h2; rfl
          obtain ⟨q, hq, rk, _⟩ := H.blk b _ hg
          rw [hp] at hq
          cases hq
          rcases hc with hc | ⟨ha, hcc⟩
          · omega
          obtain ⟨cs, o1, o2, o3, o4⟩ := rk.2.2.2 hown (by omega)
          refine ⟨.value (ρ x), ρ x, w.freeze ⟨p.blk, cs.size, none⟩ 1, β, ?_, .inl rfl, ⟨p, a, c, hp, hxe, hnc, .inr ⟨ha, hcc⟩⟩, ?_, fun h => (nomatch h)⟩
          · have hsh : w.shape? p.blk = some (B.ty, cs.size) := by simp [World.shape?, o1]
            simp only [execOp, hxe, ha, convert, Sem.run_bind, run_underlying h1, run_underlying h2, run_underlying h3, Result.andThen_ok, beq_self_eq_true, markStringish, run_shape, hsh, run_freeze, Sem.run_pure]
          · refine ⟨by simp [World.freeze], by simp [World.freeze], by simp [World.freeze], rfl, by simp [World.freeze], .refl _, fun _ h _ => h, fun g' hg' hno => ?_, fun b' K hs' => ?_, fun _ h => (nomatch h)⟩
            · have := hno b _ _ p rfl hg hown hp (by omega)
              simp only [World.freeze, Nat.succ_ne_self, if_false, Array.getElem?_modify]
              rw [if_neg this]
            · simp only [Option.some.injEq, Prod.mk.injEq] at hs'
              obtain ⟨rfl, rfl⟩ := hs'
              refine ⟨_, hg, fun K1 h1' q hq => ?_, fun K1 h1' => .inl hown⟩
              cases h1'
              rw [hp] at hq
              cases hq
              refine ⟨rk.1, rk.2.1, fun e' he' => ⟨(rk.2.2.1 e' he').1, fun j u hu => ?_⟩, fun h0 => (nomatch h0)⟩
              obtain ⟨y, y1, y2⟩ := (rk.2.2.1 e' he').2 j u hu
              exact ⟨y, by rw [freeze_cell o1]; exact y1, y2⟩
        · cases h
      · cases h
    · cases h
  · rename_i b e k n
    obtain ⟨p, c, hp, hxe, hnc⟩ := hx
    split at h
    · rename_i el B h1 h2 hg
      split at h
      · rename_i h3
        cases h
        obtain ⟨q, hq, rk, _⟩ := H.blk b _ hg
        rw [hp] at hq
        cases hq
        refine Does.quiet (y := .string ⟨(bytesOfCells (B.el e) k n).toArray⟩) (fun w1 hw1 => ?_) rfl
        have hrun := run_bytes (P := P) (w := w) (a := some ⟨p.blk, p.off + e * p.size + k, none⟩) (n := n) (c := c) (fun i => ((cellAt (B.el e) (k + i)).byte).getD 0) (.inr ⟨_, rfl, fun j hj => by
          obtain ⟨v, hv⟩ := ho.2 j hj
          obtain ⟨y, y1, _, y3⟩ := (rk.2.2.1 e ho.1).2 (k + j) _ hv
          obtain rfl : y = .int .u8 v := y3
          rw [cellAt_get _ _ _ hv, add_plain]
          simp only [SV.byte, Option.getD_some]
          rw [Nat.add_assoc]
          exact y1⟩)
        simp only [execOp, hxe, convert, Sem.run_bind, run_underlying h1, run_underlying h2, run_underlying h3, Result.andThen_ok, hrun w1 (.inr fun ad had => by
          cases had
          refine hw1.b b _ p hg hp ?_
          have h1 := rk.2.1
          have h2 := ho.1
          omega), Sem.run_pure]
        rfl
      · cases h
    · cases h
  · rename_i s rows
    obtain ⟨blk, off, a, c, hxe, hnc, hc, hrow⟩ := hx
    split at h
    · rename_i el h1 h2
      split at h
      · rename_i h3
        split at h
        · rename_i hs
          cases h
          subst hs
          refine Does.quiet (y := .string ⟨(bytesOfRows rows).toArray⟩) (fun w1 hw1 => ?_) rfl
          have hrun := run_bytes (P := P) (w := w1) (a := a) (n := rows.length) (c := c) (fun i => ((cellAt (rows.getD i []) 0).byte).getD 0) (by
            rcases Nat.eq_zero_or_pos rows.length with h0 | h0
            · exact .inl h0
            · rcases hc with hc | ha
              · omega
              · refine .inr ⟨_, ha, fun j hj => ?_⟩
                obtain ⟨hl, hcc⟩ := RelR.nth _ _ hrow j _ (List.getElem?_eq_getElem hj)
                obtain ⟨v, hv⟩ := ho rows[j] (List.getElem_mem hj)
                rw [hv] at hcc
                obtain ⟨⟨u, hu, hru⟩, _⟩ := hcc
                obtain rfl : u = .int .u8 v := hru
                have hg : rows.getD j [] = [.v (.int .u8 v)] := by rw [List.getD_eq_getElem?_getD, List.getElem?_eq_getElem hj, Option.getD_some, hv]
                rw [hg, add_plain]
                simp only [cellAt, SV.byte, Option.getD_some]
                rw [Nat.mul_one] at hu
                exact hw1.m _ _ _ hu (H.ro _ _ _ hu).1) w1 (.inr fun _ _ => rfl)
          have hmap : (List.range rows.length).map (fun i => UInt8.ofNat (((cellAt (rows.getD i []) 0).byte).getD 0).toNat) = bytesOfRows rows := by
            refine List.ext_getElem (by simp [bytesOfRows]) fun i h1 h2 => ?_
            have hi : i < rows.length := by simpa using h1
            simp [bytesOfRows, SV.u8, hi]
          rw [hmap] at hrun
          simp only [execOp, hxe, convert, Sem.run_bind, run_underlying h1, run_underlying h2, run_underlying h3, Result.andThen_ok, hrun, Sem.run_pure]
        · cases h
      · cases h
    · cases h
  · cases h
theorem bound_run {x : Option Operand} {sx : Option SV} {l d : Int} (hx : ∀ o, x = some o → ∃ s, sx = some s ∧ RelV β s (ρ o)) (hn : x = none → sx = none) (h : sBound sx d = some l) :
    (x = none ∧ l = d) ∨ ∃ o k, x = some o ∧ ρ o = .int k l := by
  cases x with
  | none => rw [hn rfl] at h; simp [sBound] at h; exact .inl ⟨rfl, h.symm⟩
  | some o =>
    obtain ⟨s, rfl, hr⟩ := hx o rfl
    unfold sBound sInt? at h
    simp only at h
    split at h
    · rename_i k n
      cases h
      exact .inr ⟨o, k, rfl, hr⟩
    · cases h
theorem bounds_run {isS : Bool} {n c : Nat} {lo hi : Option Operand} {l h : Int} (hl : (lo = none ∧ l = 0) ∨ ∃ o k, lo = some o ∧ ρ o = .int k l) (hh : (hi = none ∧ h = n) ∨ ∃ o k, hi = some o ∧ ρ o = .int k h)
    (h0 : 0 ≤ l) (h1 : l ≤ h) (h2 : h ≤ n) (h3 : n ≤ c) : (Instr.sliceBounds isS n c (lo.map ρ) (hi.map ρ) none).run P w = .ok (l.toNat, h.toNat, c) w := by
  have e : ∀ (x : Int), 0 ≤ x → (x.toNat : Int) = x := fun x hx => Int.toNat_of_nonneg hx
  have hb : ∀ (k : IntKind) (i : Int) (y : Nat) (code : BoundsCode), 0 ≤ i → i ≤ y → (Instr.sliceBound (.int k i) y code).run P w = .ok i.toNat w := fun k i y code a b => run_sliceBound (P := P) w k i y code a b
  rcases hl with ⟨rfl, rfl⟩ | ⟨ol, kl, rfl, hol⟩ <;> rcases hh with ⟨rfl, rfl⟩ | ⟨oh, kh, rfl, hoh⟩
  · simp [Instr.sliceBounds]
  · simp only [Instr.sliceBounds, Option.map_some, Option.map_none, hoh, Sem.run_bind, Sem.run_pure, Result.andThen_ok]
    rw [hb kh h c _ (by omega) (by omega)]
    simp
  · simp only [Instr.sliceBounds, Option.map_some, Option.map_none, hol, Sem.run_bind, Sem.run_pure, Result.andThen_ok]
    rw [hb kl l n _ h0 (by omega)]
    simp
  · simp only [Instr.sliceBounds, Option.map_some, Option.map_none, hol, hoh, Sem.run_bind, Sem.run_pure, Result.andThen_ok]
    rw [hb kh h c _ (by omega) (by omega)]
    simp only [Result.andThen_ok]
    rw [hb kl l h.toNat _ h0 (by rw [e h (by omega)]; exact h1)]
    simp
theorem run_slc {t elem : TypeId} {s n c : Nat} {a : Option Addr} {lo hi : Option Operand} {l h : Int} (ht : P.underlying t = some (.slice elem)) (hs : tsz P elem = some s)
    (hl : (lo = none ∧ l = 0) ∨ ∃ o k, lo = some o ∧ ρ o = .int k l) (hh : (hi = none ∧ h = n) ∨ ∃ o k, hi = some o ∧ ρ o = .int k h)
    (h0 : 0 ≤ l) (h1 : l ≤ h) (h2 : h ≤ n) (h3 : n ≤ c) :
    (Instr.sliceAt t (.slice a n c) (lo.map ρ) (hi.map ρ) none).run P w = .ok (.slice (if c = l.toNat then a else a.map (·.add (l.toNat * s))) (h.toNat - l.toNat) (c - l.toNat)) w := by
  have hb := bounds_run (P := P) (w := w) (isS := true) hl hh h0 h1 h2 h3
  simp only [Instr.sliceAt, Instr.slice, Sem.run_bind, run_underlying ht, Result.andThen_ok, hb, run_size hs, Sem.run_pure]
theorem rsl_rows {blk off s : Nat} {rows : List (List SV)} {l h : Nat} (hrow : RelR β blk s off rows) : RelR β blk s (off + l * s) ((rows.take h).drop l) :=
  RelR.of_get _ _ fun i r hi => by
    rw [List.getElem?_drop] at hi
    have hlt : l + i < h := by
      have := (List.getElem?_eq_some_iff.1 hi).1
      simp at this
      omega
    rw [List.getElem?_take_of_lt hlt] at hi
    have := RelR.nth _ _ hrow (l + i) r hi
    rw [Nat.add_mul, ← Nat.add_assoc] at this
    exact this
theorem rsl_cut {blk off s c : Nat} {a : Option Addr} {rows : List (List SV)} {l h : Int} (hnc : rows.length ≤ c) (hc : c = 0 ∨ a = some ⟨blk, off, none⟩) (hrow : RelR β blk s off rows) (h1 : 0 ≤ l) (h2 : l ≤ h) (h3 : h ≤ rows.length) :
    RelV β (.rsl s ((rows.take h.toNat).drop l.toNat)) (.slice (if c = l.toNat then a else a.map (·.add (l.toNat * s))) (h.toNat - l.toNat) (c - l.toNat)) := by
  have hlen : ((rows.take h.toNat).drop l.toNat).length = h.toNat - l.toNat := by simp; omega
  refine ⟨blk, off + l.toNat * s, _, c - l.toNat, by rw [hlen], by rw [hlen]; omega, ?_, rsl_rows hrow⟩
  by_cases hcl : c = l.toNat
  · left; omega
  · right
    rcases hc with hc | ha
    · omega
    · rw [if_neg hcl, ha, Option.map_some, add_plain]
theorem does_slice (H : Loc w β N get) {t : TypeId} {x : Operand} {lo hi : Option Operand} {sx : SV} {slo shi : Option SV} (hx : RelV β sx (ρ x))
    (hlo : ∀ o, lo = some o → ∃ s, slo = some s ∧ RelV β s (ρ o)) (hlon : lo = none → slo = none) (hhi : ∀ o, hi = some o → ∃ s, shi = some s ∧ RelV β s (ρ o)) (hhin : hi = none → shi = none)
    {r : SO} (h : sSlice P get t sx slo shi = some r) (ho : r.ob) : Does P ⟨dst, .slice t x lo hi none, ty, pos, af, g⟩ ρ w β N get r := by
  unfold sSlice at h
  split at h
  · rename_i b e n
    obtain ⟨p, a, c, hp, hxe, hnc, hc⟩ := hx
    split at h
    · rename_i elem B l hh ht hg hl0 hh0
      split at h
      · rename_i hs
        cases h
        obtain ⟨q, hq, rk, _⟩ := H.blk b _ hg
        rw [hp] at hq
        cases hq
        have hrun := fun w1 => run_slc (P := P) (w := w1) (a := a) (c := c) ht hs (bound_run hlo hlon hl0) (bound_run hhi hhin hh0) ho.1 ho.2.1 ho.2.2 hnc
        refine Does.quiet (y := .slice (if c = l.toNat then a else a.map (·.add (l.toNat * B.size))) (hh.toNat - l.toNat) (c - l.toNat)) (fun w1 hw1 => by simp only [execOp, hxe, Option.map_none, Sem.run_bind, hrun w1, Result.andThen_ok, Sem.run_pure]) ?_
        have h1 := ho.1
        have h2 := ho.2.1
        have h3 := ho.2.2
        refine ⟨p, if c = l.toNat then a else a.map (·.add (l.toNat * B.size)), c - l.toNat, hp, ?_, ?_, ?_⟩
        · congr 1
          omega
        · omega
        · by_cases hcl : c = l.toNat
          · left; omega
          · right
            rcases hc with hc | ⟨ha, hcc⟩
            · omega
            · rw [if_neg hcl, ha]
              refine ⟨?_, by omega⟩
              simp only [Option.map_some, add_plain, Nat.add_mul]
              rw [rk.1, Nat.add_assoc]
      · cases h
    · cases h
  · obtain hx : ρ x = _ := hx
    split at h
    · rename_i elem l hh ht hl0 hh0
      split at h
      · rename_i s hs
        cases h
        obtain ⟨rfl, rfl⟩ := ho
        have hrun := fun w1 => run_slc (P := P) (w := w1) (a := none) (n := 0) (c := 0) ht hs (bound_run hlo hlon hl0) (bound_run hhi hhin hh0) (by omega) (by omega) (by omega) (by omega)
        refine Does.quiet (y := .slice none 0 0) (fun w1 hw1 => ?_) rfl
        simp only [execOp, hx, Option.map_none, Sem.run_bind, hrun, Result.andThen_ok, Sem.run_pure]
        rfl
      · cases h
    · cases h
  · rename_i s
    obtain hx : ρ x = _ := hx
    split at h
    · rename_i l hh ht hl0 hh0
      cases h
      have hb := fun w1 => bounds_run (P := P) (w := w1) (isS := false) (bound_run hlo hlon hl0) (bound_run hhi hhin hh0) ho.1 ho.2.1 ho.2.2 (Nat.le_refl _)
      refine Does.quiet (y := .string (s.extract l.toNat hh.toNat)) (fun w1 hw1 => ?_) rfl
      simp only [execOp, hx, Option.map_none, Instr.sliceAt, Instr.slice, Sem.run_bind, run_underlying ht, Result.andThen_ok, Option.isSome_none, Bool.false_eq_true, if_false, Sem.run_pure, hb]
    · cases h
  · rename_i b e k
    obtain ⟨p, hp, hxe⟩ := hx
    split at h
    · rename_i n elem ht
      split at h
      · rename_i hs
        cases h
        have hlo' : lo = none := by
          cases lo with
          | none => rfl
          | some o => obtain ⟨s, h, _⟩ := hlo o rfl; cases h
        have hhi' : hi = none := by
          cases hi with
          | none => rfl
          | some o => obtain ⟨s, h, _⟩ := hhi o rfl; cases h
        subst hlo'
        subst hhi'
        refine Does.quiet (y := .slice (some ⟨p.blk, p.off + e * p.size + k, none⟩) n n) (fun w1 hw1 => ?_) ⟨p, n, hp, rfl, Nat.le_refl _⟩
        simp only [execOp, hxe, Option.map_none, Instr.sliceAt, Sem.run_bind, run_underlying ht, Result.andThen_ok, Instr.sureAddr, Sem.run_pure, Instr.sliceBounds, run_size hs]
        simp [Addr.add]
      · cases h
    · cases h
  · rename_i row k
    obtain ⟨blk, off, hxe, hrow⟩ := hx
    split at h
    · rename_i n elem ht
      split at h
      · rename_i hs
        cases h
        have hlo' : lo = none := by
          cases lo with
          | none => rfl
          | some o => obtain ⟨s, h, _⟩ := hlo o rfl; cases h
        have hhi' : hi = none := by
          cases hi with
          | none => rfl
          | some o => obtain ⟨s, h, _⟩ := hhi o rfl; cases h
        subst hlo'
        subst hhi'
        have hob : k + n ≤ row.length := ho
        have hlen : (((row.drop k).take n).map fun x => [x]).length = n := by simp; omega
        refine Does.quiet (y := .slice (some ⟨blk, off + k, none⟩) n n) (fun w1 hw1 => ?_) ⟨blk, off + k, _, n, by rw [hlen], by rw [hlen]; exact Nat.le_refl _, .inr rfl, RelR.of_get _ _ fun i r hi => ?_⟩
        · simp only [execOp, hxe, Option.map_none, Instr.sliceAt, Sem.run_bind, run_underlying ht, Result.andThen_ok, Instr.sureAddr, Sem.run_pure, Instr.sliceBounds, run_size hs]
          simp [Addr.add]
        · rw [List.getElem?_map] at hi
          obtain ⟨x, hx, rfl⟩ := Option.map_eq_some_iff.1 hi
          refine ⟨rfl, ?_⟩
          obtain ⟨cs, c1, c2⟩ := RelC.toL _ _ ((RelC.drop k off row hrow).take n)
          obtain ⟨v, v1, v2⟩ := c1.get i x hx
          exact ⟨⟨v, by rw [Nat.mul_one]; exact c2 i v v1, v2⟩, trivial⟩
      · cases h
    · cases h
  · rename_i s rows
    obtain ⟨blk, off, a, c, hxe, hnc, hc, hrow⟩ := hx
    split at h
    · rename_i elem l hh ht hl0 hh0
      split at h
      · rename_i hs
        cases h
        have hrun := fun w1 => run_slc (P := P) (w := w1) (a := a) (c := c) (n := rows.length) ht hs (bound_run hlo hlon hl0) (bound_run hhi hhin hh0) ho.1 ho.2.1 ho.2.2 hnc
        refine Does.quiet (y := .slice (if c = l.toNat then a else a.map (·.add (l.toNat * s))) (hh.toNat - l.toNat) (c - l.toNat)) (fun w1 hw1 => by simp only [execOp, hxe, Option.map_none, Sem.run_bind, hrun w1, Result.andThen_ok, Sem.run_pure]) ?_
        exact rsl_cut hnc hc hrow ho.1 ho.2.1 ho.2.2
      · cases h
    · cases h
  · cases h
theorem bounds_run3 {n c : Nat} {lo hi mx : Option Operand} {l h m : Int} (hl : (lo = none ∧ l = 0) ∨ ∃ o k, lo = some o ∧ ρ o = .int k l) (hh : ∃ o k, hi = some o ∧ ρ o = .int k h) (hm : ∃ o k, mx = some o ∧ ρ o = .int k m)
    (h0 : 0 ≤ l) (h1 : l ≤ h) (h2 : h ≤ m) (h3 : m ≤ n) (h4 : n ≤ c) : (Instr.sliceBounds true n c (lo.map ρ) (hi.map ρ) (mx.map ρ)).run P w = .ok (l.toNat, h.toNat, m.toNat) w := by
  have e : ∀ (x : Int), 0 ≤ x → (x.toNat : Int) = x := fun x hx => Int.toNat_of_nonneg hx
  have hb : ∀ (k : IntKind) (i : Int) (y : Nat) (code : BoundsCode), 0 ≤ i → i ≤ y → (Instr.sliceBound (.int k i) y code).run P w = .ok i.toNat w := fun k i y code a b => run_sliceBound (P := P) w k i y code a b
  obtain ⟨om, km, rfl, hom⟩ := hm
  obtain ⟨oh, kh, rfl, hoh⟩ := hh
  rcases hl with ⟨rfl, rfl⟩ | ⟨ol, kl, rfl, hol⟩
  · simp only [Instr.sliceBounds, Option.map_some, Option.map_none, hom, hoh, Sem.run_bind, Sem.run_pure, Result.andThen_ok]
    rw [hb km m c _ (by omega) (by omega)]
    simp only [Result.andThen_ok]
    rw [hb kh h m.toNat _ (by omega) (by rw [e m (by omega)]; exact h2)]
    simp
  · simp only [Instr.sliceBounds, Option.map_some, Option.map_none, hom, hoh, hol, Sem.run_bind, Sem.run_pure, Result.andThen_ok]
    rw [hb km m c _ (by omega) (by omega)]
    simp only [Result.andThen_ok]
    rw [hb kh h m.toNat _ (by omega) (by rw [e m (by omega)]; exact h2)]
    simp only [Result.andThen_ok]
    rw [hb kl l h.toNat _ h0 (by rw [e h (by omega)]; exact h1)]
    simp
theorem does_slice3 {t : TypeId} {x : Operand} {lo hi mx : Option Operand} {sx : SV} {slo shi : Option SV} {smx : SV} (hx : RelV β sx (ρ x))
    (hlo : ∀ o, lo = some o → ∃ s, slo = some s ∧ RelV β s (ρ o)) (hlon : lo = none → slo = none) (hhi : ∀ o, hi = some o → ∃ s, shi = some s ∧ RelV β s (ρ o)) (hhin : hi = none → shi = none) {om : Operand} (hmx : mx = some om) (hm : RelV β smx (ρ om))
    {r : SO} (h : sSlice3 P t sx slo shi (some smx) = some r) (ho : r.ob) : Does P ⟨dst, .slice t x lo hi mx, ty, pos, af, g⟩ ρ w β N get r := by
  unfold sSlice3 at h
  split at h
  · rename_i s rows shi0
    have hhi0 : ∃ o, hi = some o ∧ RelV β shi0 (ρ o) := by
      cases hi with
      | none => have := hhin rfl; cases this
      | some o => obtain ⟨s, h1, h2⟩ := hhi o rfl; cases h1; exact ⟨o, rfl, h2⟩
    obtain ⟨blk, off, a, c, hxe, hnc, hc, hrow⟩ := hx
    split at h
    · rename_i elem l hh m ht hl0 hh0 hm0
      split at h
      · rename_i hs
        cases h
        obtain ⟨o1, o2, o3, o4⟩ := ho
        have hh1 : ∃ o k, hi = some o ∧ ρ o = .int k hh := by
          obtain ⟨o, h1, h2⟩ := hhi0
          unfold sInt? at hh0
          split at hh0
          · cases hh0; exact ⟨o, _, h1, h2⟩
          · cases hh0
        have hm1 : ∃ o k, mx = some o ∧ ρ o = .int k m := by
          unfold sBound sInt? at hm0
          simp only at hm0
          split at hm0
          · cases hm0; exact ⟨om, _, hmx, hm⟩
          · cases hm0
        have hrun : ∀ w1, (Instr.sliceAt t (.slice a rows.length c) (lo.map ρ) (hi.map ρ) (mx.map ρ)).run P w1 = .ok (.slice (if m.toNat = l.toNat then a else a.map (·.add (l.toNat * s))) (hh.toNat - l.toNat) (m.toNat - l.toNat)) w1 := by
          intro w1
          have hb := bounds_run3 (P := P) (w := w1) (bound_run hlo hlon hl0) hh1 hm1 o1 o2 o3 o4 hnc
          simp only [Instr.sliceAt, Instr.slice, Sem.run_bind, run_underlying ht, Result.andThen_ok, hb, run_size hs, Sem.run_pure]
        refine Does.quiet (y := .slice (if m.toNat = l.toNat then a else a.map (·.add (l.toNat * s))) (hh.toNat - l.toNat) (m.toNat - l.toNat)) (fun w1 hw1 => by simp only [execOp, hxe, Sem.run_bind, hrun w1, Result.andThen_ok, Sem.run_pure]) ?_
        have hlen : ((rows.take hh.toNat).drop l.toNat).length = hh.toNat - l.toNat := by simp; omega
        refine ⟨blk, off + l.toNat * s, _, m.toNat - l.toNat, by rw [hlen], by rw [hlen]; omega, ?_, rsl_rows hrow⟩
        by_cases hml : m.toNat = l.toNat
        · left; omega
        · right
          rcases hc with hc | ha
          · omega
          · rw [if_neg hml, ha, Option.map_some, add_plain]
      · cases h
    · cases h
  · cases h
theorem tfield_run {s ft : TypeId} {f off n : Nat} (h : tfield P s f = some (ft, off, n)) : ∃ fs x, P.underlying s = some (.struct fs) ∧ fs[f]? = some x ∧ x.type = ft ∧ x.offset = off ∧ tsz P ft = some n := by
  unfold tfield at h
  split at h
  · rename_i fs hs
    split at h
    · rename_i x hx
      obtain ⟨m, hm, e⟩ := Option.map_eq_some_iff.1 h
      simp only [Prod.mk.injEq] at e
      obtain ⟨rfl, rfl, rfl⟩ := e
      exact ⟨fs, x, hs, hx, rfl, rfl, hm⟩
    · cases h
  · cases h
theorem does_fieldAddr {s : TypeId} {x : Operand} {f : Nat} {sx : SV} (hx : RelV β sx (ρ x)) {r : SO} (h : sFieldAddr P s sx f = some r) : Does P ⟨dst, .fieldAddr s x f, ty, pos, af, g⟩ ρ w β N get r := by
  unfold sFieldAddr at h
  split at h
  · rename_i b e k ft off n hf
    split at h
    · rename_i hn
      cases h
      obtain ⟨p, hp, hxe⟩ := hx
      obtain ⟨fs, fx, h1, h2, h3, h4, h5⟩ := tfield_run hf
      subst h3
      subst h4
      refine Does.quiet (y := .pointer (some ⟨p.blk, p.off + e * p.size + (k + fx.offset), none⟩)) (fun w1 hw1 => ?_) ⟨p, hp, rfl⟩
      simp only [execOp, hxe, Instr.fieldAt, Sem.run_bind, run_underlying h1, Result.andThen_ok, h2, Instr.sureAddr, Sem.run_pure, fieldPlace, run_size h5, if_neg hn, add_plain, Nat.add_assoc]
    · cases h
  · rename_i row k ft off n hf
    split at h
    · rename_i hn
      cases h
      obtain ⟨blk, o0, hxe, hrow⟩ := hx
      obtain ⟨fs, fx, h1, h2, h3, h4, h5⟩ := tfield_run hf
      subst h3
      subst h4
      refine Does.quiet (y := .pointer (some ⟨blk, o0 + (k + fx.offset), none⟩)) (fun w1 hw1 => ?_) ⟨blk, o0, rfl, hrow⟩
      simp only [execOp, hxe, Instr.fieldAt, Sem.run_bind, run_underlying h1, Result.andThen_ok, h2, Instr.sureAddr, Sem.run_pure, fieldPlace, run_size h5, if_neg hn, add_plain, Nat.add_assoc]
    · cases h
  · cases h
theorem run_part {ft : TypeId} {g' : Bool} {n off : Nat} {l : List SV} {cs : Array Value} (hl : RelL β l cs.toList) (ha : tagg P ft = some g') (hs : tsz P ft = some n) (hk : off + n ≤ l.length ∧ (g' = false → n = 1)) :
    ∃ y, (∀ w, (part ft cs off).run P w = .ok y w) ∧ RelV β (spart g' l off n) y := by
  have hlen := hl.length
  unfold part spart
  simp only [Sem.run_bind, run_isAgg ha, Result.andThen_ok]
  cases g' with
  | true =>
    refine ⟨.agg (cs.extract off (off + n)), fun w => ?_, _, rfl, ?_⟩
    · simp [run_size hs]
    · have := (hl.drop off).take n
      have e : (cs.extract off (off + n)).toList = (cs.toList.drop off).take n := by
        rw [Array.toList_extract, List.extract_eq_take_drop]
        simp
      rw [e]
      exact this
  | false =>
    have h1 := hk.2 rfl
    subst h1
    have hlt : off < l.length := by omega
    obtain ⟨z, hz, hr⟩ := hl.get off _ (List.getElem?_eq_getElem hlt)
    refine ⟨z, fun w => ?_, ?_⟩
    · have hz' : cs[off]? = some z := by rw [← hz]; simp
      simp [hz']
    · rw [cellAt_get _ _ _ (List.getElem?_eq_getElem hlt)]
      exact hr
theorem does_field {s : TypeId} {x : Operand} {f : Nat} {sx : SV} (hx : RelV β sx (ρ x)) {r : SO} (h : sField P s sx f = some r) : Does P ⟨dst, .field s x f, ty, pos, af, g⟩ ρ w β N get r := by
  unfold sField at h
  split at h
  · rename_i l ft off n hf
    split at h
    · rename_i g' ha
      split at h
      · rename_i hk
        cases h
        obtain ⟨cs, hxe, hl⟩ := hx
        obtain ⟨fs, fx, h1, h2, h3, h4, h5⟩ := tfield_run hf
        subst h3
        subst h4
        obtain ⟨y, hy, hr⟩ := run_part (P := P) hl ha h5 hk
        refine Does.quiet (y := y) (fun w1 hw1 => ?_) hr
        simp only [execOp, hxe, Instr.field, Sem.run_bind, run_underlying h1, Result.andThen_ok, h2, asAgg, Sem.run_pure, hy]
      · cases h
    · cases h
  · cases h
theorem sInt_val {s : SV} {i : Int} {o : Operand} (h : sInt? s = some i) (hr : RelV β s (ρ o)) : ∃ k, ρ o = .int k i := by
  unfold sInt? at h
  split at h
  · cases h; exact ⟨_, hr⟩
  · cases h
theorem does_indexAddr (H : Loc w β N get) {t : TypeId} {x i : Operand} {sx si : SV} (hx : RelV β sx (ρ x)) (hi : RelV β si (ρ i)) {r : SO} (h : sIndexAddr P get t sx si = some r) (ho : r.ob) : Does P ⟨dst, .indexAddr t x i, ty, pos, af, g⟩ ρ w β N get r := by
  unfold sIndexAddr at h
  split at h
  · cases h
  · rename_i j hj
    obtain ⟨k0, hie⟩ := sInt_val hj hi
    split at h
    · rename_i b e n
      obtain ⟨p, a, c, hp, hxe, hnc, hc⟩ := hx
      split at h
      · rename_i elem B ht hg
        split at h
        · rename_i hs
          cases h
          obtain ⟨q, hq, rk, _⟩ := H.blk b _ hg
          rw [hp] at hq
          cases hq
          have h1 := ho.1
          have h2 := ho.2
          rcases hc with hc | ⟨ha, hcc⟩
          · omega
          · subst ha
            refine Does.quiet (y := .pointer (some ⟨p.blk, p.off + e * p.size + j.toNat * B.size, none⟩)) (fun w1 hw1 => ?_) ⟨p, hp, ?_⟩
            · simp [execOp, hxe, hie, Instr.indexAt, asIntOf, run_underlying ht, h1, h2, run_size hs, add_plain]
            · simp only [Nat.add_mul, rk.1, Nat.add_assoc, Nat.add_zero]
        · cases h
      · cases h
    · rename_i b e k n
      obtain ⟨p, c, hp, hxe, hnc⟩ := hx
      split at h
      · rename_i elem ht
        split at h
        · rename_i hs
          cases h
          have h1 := ho.1
          have h2 := ho.2
          refine Does.quiet (y := .pointer (some ⟨p.blk, p.off + e * p.size + (k + j.toNat), none⟩)) (fun w1 hw1 => ?_) ⟨p, hp, rfl⟩
          simp [execOp, hxe, hie, Instr.indexAt, asIntOf, run_underlying ht, h1, h2, run_size hs, add_plain, Nat.add_assoc]
        · cases h
      · cases h
    · rename_i b e k
      obtain ⟨p, hp, hxe⟩ := hx
      split at h
      · rename_i n elem ht
        split at h
        · rename_i s hs
          cases h
          have h1 := ho.1
          have h2 := ho.2
          refine Does.quiet (y := .pointer (some ⟨p.blk, p.off + e * p.size + (k + j.toNat * s), none⟩)) (fun w1 hw1 => ?_) ⟨p, hp, rfl⟩
          simp [execOp, hxe, hie, Instr.indexAt, Instr.sureAddr, asIntOf, run_underlying ht, h1, h2, run_size hs, add_plain, Nat.add_assoc]
        · cases h
      · cases h
    · rename_i row k
      obtain ⟨blk, off, hxe, hrow⟩ := hx
      split at h
      · rename_i n elem ht
        split at h
        · rename_i s hs
          cases h
          have h1 := ho.1
          have h2 := ho.2
          refine Does.quiet (y := .pointer (some ⟨blk, off + (k + j.toNat * s), none⟩)) (fun w1 hw1 => ?_) ⟨blk, off, rfl, hrow⟩
          simp [execOp, hxe, hie, Instr.indexAt, Instr.sureAddr, asIntOf, run_underlying ht, h1, h2, run_size hs, add_plain, Nat.add_assoc]
        · cases h
      · cases h
    · rename_i s rows
      obtain ⟨blk, off, a, c, hxe, hnc, hc, hrow⟩ := hx
      split at h
      · rename_i elem ht
        split at h
        · rename_i hs
          cases h
          have h1 := ho.1
          have h2 := ho.2
          have hlt : j.toNat < rows.length := by omega
          rcases hc with hc | ha
          · omega
          · subst ha
            refine Does.quiet (y := .pointer (some ⟨blk, off + j.toNat * s + 0, none⟩)) (fun w1 hw1 => ?_) ⟨blk, off + j.toNat * s, rfl, ?_⟩
            · simp [execOp, hxe, hie, Instr.indexAt, asIntOf, run_underlying ht, h1, h2, run_size hs, add_plain]
            · have := (RelR.nth _ _ hrow j.toNat _ (List.getElem?_eq_getElem hlt)).2
              rwa [List.getD_eq_getElem?_getD, List.getElem?_eq_getElem hlt, Option.getD_some]
        · cases h
      · cases h
    · cases h
theorem does_index {t : TypeId} {x i : Operand} {sx si : SV} (hx : RelV β sx (ρ x)) (hi : RelV β si (ρ i)) {r : SO} (h : sIndex P t sx si = some r) (ho : r.ob) : Does P ⟨dst, .index t x i, ty, pos, af, g⟩ ρ w β N get r := by
  unfold sIndex at h
  split at h
  · cases h
  · rename_i j hj
    obtain ⟨k0, hie⟩ := sInt_val hj hi
    split at h
    · rename_i l
      obtain ⟨cs, hxe, hl⟩ := hx
      split at h
      · rename_i n elem ht
        split at h
        · rename_i s g' hs ha
          split at h
          · rename_i hk
            cases h
            have h1 := ho.1
            have h2 := ho.2
            have hb : j.toNat * s + s ≤ l.length := by
              rw [hk.1]
              have : (j.toNat + 1) * s ≤ n * s := Nat.mul_le_mul_right _ (by omega)
              rw [Nat.add_mul] at this
              omega
            obtain ⟨y, hy, hr⟩ := run_part (P := P) hl ha hs ⟨hb, hk.2⟩
            refine Does.quiet (y := y) (fun w1 hw1 => ?_) hr
            simp only [execOp, hxe, hie, Instr.index, asIntOf, Sem.run_bind, Sem.run_pure, run_underlying ht, Result.andThen_ok, if_pos ho, run_size hs, hy]
          · cases h
        · cases h
      · cases h
    · rename_i s
      obtain hx : ρ x = _ := hx
      split at h
      · rename_i ht
        cases h
        have h1 := ho.1
        have h2 := ho.2
        have hlt : j.toNat < s.size := by omega
        refine Does.quiet (y := .int .u8 (strAt s j.toNat)) (fun w1 hw1 => ?_) rfl
        have hget : s[j.toNat]? = some s[j.toNat] := by simp [hlt]
        have hstr : ((s[j.toNat]'hlt).toNat : Int) = strAt s j.toNat := by
          unfold strAt
          have : s.data[j.toNat]? = some (s[j.toNat]'hlt) := by
            rw [Array.getElem?_eq_getElem (by exact hlt)]
            rfl
          rw [this]
          rfl
        simp only [execOp, hx, hie, Instr.index, asIntOf, Sem.run_bind, Sem.run_pure, run_underlying ht, Result.andThen_ok, if_pos h1, hget, hstr]
      · cases h
    · cases h
end
end Go.SL
