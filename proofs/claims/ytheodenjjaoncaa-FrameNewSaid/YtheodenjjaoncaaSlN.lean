/- Contracts of functions that the laws reach, on abstract values, and what they need: no conditions but those that each theorem states. -/
import Derived.Test.YtheodenjjaoncaaSlM
set_option linter.unusedVariables false
set_option linter.unusedSimpArgs false
set_option linter.defProp false
namespace Go.SL
open Go
set_option linter.unusedVariables false
def EqV (P : Program) (d : Nat) (t : TypeId) (x y : SV) (b : Bool) : Prop := ∀ β w u v, RelV β x u → RelV β y v → (Op.equalIn d t u v).run P w = .ok b w
section
variable {P : Program}
theorem EqV.int {d : Nat} {t : TypeId} {k : IntKind} {a b : Int} (h : P.underlying t = some (.int k)) : EqV P (d + 1) t (.v (.int k a)) (.v (.int k b)) (decide (a = b)) := by
  rintro β w u v rfl rfl
  simp [Op.equalIn, run_underlying h, Sem.run_bind]
  rfl
theorem EqV.bool {d : Nat} {t : TypeId} {a b : Bool} (h : P.underlying t = some .bool) : EqV P (d + 1) t (.v (.bool a)) (.v (.bool b)) (decide (a = b)) := by
  rintro β w u v rfl rfl
  simp [Op.equalIn, run_underlying h, Sem.run_bind]
  rfl
theorem eqItems_run {d : Nat} {e : TypeId} {s : Nat} {g : Bool} (hs : tsz P e = some s) (ha : tagg P e = some g) (hg : g = false → s = 1) {ls ms : List SV} {β : Bt} {xs ys : Array Value} (hx : RelL β ls xs.toList) (hy : RelL β ms ys.toList) (bs : Nat → Bool) (w : World) :
    ∀ (l : List Nat), (∀ i ∈ l, i * s + s ≤ ls.length ∧ i * s + s ≤ ms.length ∧ EqV P d e (spart g ls (i * s) s) (spart g ms (i * s) s) (bs i)) → (Op.eqItems d e s xs ys l).run P w = .ok (l.all bs) w
  | [], _ => by simp [Op.eqItems]
  | i :: l, h => by
    obtain ⟨h1, h2, h3⟩ := h i (by simp)
    obtain ⟨u, hu, ru⟩ := run_part hx ha hs ⟨h1, hg⟩
    obtain ⟨v, hv, rv⟩ := run_part hy ha hs ⟨h2, hg⟩
    have h4 := h3 β w u v ru rv
    simp only [Op.eqItems, Sem.run_bind, hu, hv, h4, Result.andThen_ok, List.all_cons]
    cases hb : bs i with
    | false => simp
    | true =>
      simp only [Bool.not_true, Bool.false_eq_true, if_false, Bool.true_and]
      exact eqItems_run hs ha hg hx hy bs w l fun j hj => h j (by simp [hj])
theorem EqV.array {d n : Nat} {t e : TypeId} {s : Nat} {g : Bool} (h : P.underlying t = some (.array n e)) (hs : tsz P e = some s) (ha : tagg P e = some g) (hg : g = false → s = 1) {ls ms : List SV} (bs : Nat → Bool)
    (hi : ∀ i, i < n → i * s + s ≤ ls.length ∧ i * s + s ≤ ms.length ∧ EqV P d e (spart g ls (i * s) s) (spart g ms (i * s) s) (bs i)) : EqV P (d + 1) t (.agg ls) (.agg ms) ((List.range n).all bs) := by
  rintro β w u v ⟨xs, rfl, hx⟩ ⟨ys, rfl, hy⟩
  have hs' := hs
  unfold tsz at hs'
  obtain ⟨i, hinfo, hsz⟩ := Option.map_eq_some_iff.1 hs'
  rw [run_equalIn_array w d xs ys h hinfo]
  have hc : P.cellsOf e = s := by simp [Program.cellsOf, hinfo, hsz]
  rw [hc]
  exact eqItems_run hs ha hg hx hy bs w _ fun i hm => hi i (by simpa using hm)
theorem eqFields_run {d : Nat} {ls ms : List SV} {β : Bt} {xs ys : Array Value} (hx : RelL β ls xs.toList) (hy : RelL β ms ys.toList) (w : World) :
    ∀ (fs : List Field) (bs : List Bool), fs.length = bs.length → (∀ (i : Nat) f b, fs[i]? = some f → bs[i]? = some b → f.name ≠ "_" ∧ ∃ s g, tsz P f.type = some s ∧ tagg P f.type = some g ∧ (g = false → s = 1) ∧ f.offset + s ≤ ls.length ∧ f.offset + s ≤ ms.length ∧ EqV P d f.type (spart g ls f.offset s) (spart g ms f.offset s) b) →
      (Op.eqFields d xs ys fs).run P w = .ok (bs.all id) w
  | [], [], _, _ => by simp [Op.eqFields]
  | f :: fs, b :: bs, hl, h => by
    obtain ⟨hn, s, g, hs, ha, hg, h1, h2, h3⟩ := h 0 f b rfl rfl
    obtain ⟨u, hu, ru⟩ := run_part hx ha hs ⟨h1, hg⟩
    obtain ⟨v, hv, rv⟩ := run_part hy ha hs ⟨h2, hg⟩
    have h4 := h3 β w u v ru rv
    simp only [Op.eqFields, if_pos hn, Sem.run_bind, hu, hv, h4, Result.andThen_ok, List.all_cons, id_eq]
    cases b with
    | false => simp
    | true =>
      simp only [Bool.not_true, Bool.false_eq_true, if_false, Bool.true_and]
      exact eqFields_run hx hy w fs bs (by simpa using hl) fun i f b hf hb => h (i + 1) f b (by simpa using hf) (by simpa using hb)
  | [], _ :: _, h, _ => by simp at h
  | _ :: _, [], h, _ => by simp at h
theorem EqV.struct {d : Nat} {t : TypeId} {fs : Array Field} (h : P.underlying t = some (.struct fs)) (hp : P.stoodInHeld t = false) {ls ms : List SV} (bs : List Bool) (hl : fs.toList.length = bs.length)
    (hi : ∀ (i : Nat) f b, fs.toList[i]? = some f → bs[i]? = some b → f.name ≠ "_" ∧ ∃ s g, tsz P f.type = some s ∧ tagg P f.type = some g ∧ (g = false → s = 1) ∧ f.offset + s ≤ ls.length ∧ f.offset + s ≤ ms.length ∧ EqV P d f.type (spart g ls f.offset s) (spart g ms f.offset s) b) :
    EqV P (d + 1) t (.agg ls) (.agg ms) (bs.all id) := by
  rintro β w u v ⟨xs, rfl, hx⟩ ⟨ys, rfl, hy⟩
  have hf : P.fieldsOf t = fs := by simp [Program.fieldsOf, h]
  rw [run_equalIn_struct w d t xs ys (by rw [hf]; exact h) hp, hf]
  exact eqFields_run hx hy w _ bs hl hi
theorem EqV.flat {t : TypeId} {ls ms : List SV} {b : Bool} (hg : P.eqGuardType P.depth t = false) (h : EqV P 10000 t (.agg ls) (.agg ms) b) (hc : cellsEq ls ms = some b) : FlatEq P t ls ms :=
  ⟨hg, fun β w xs ys b' hx hy hb => by
    rw [hc] at hb
    cases hb
    exact h β w _ _ ⟨xs, rfl, hx⟩ ⟨ys, rfl, hy⟩⟩
end
section
variable {P : Program} {Q : SX → St → Prop} {K : List It} {s : St} {get : Nat → Option SK} {N : Nat}
theorem relH_ghost {w : World} {β : Bt} {L : List (Option SK)} (h : RelH w β L) (z : Nat) (ty : TypeId) (own : Bool) (el : Nat → List SV) :
    RelH w (β.put L.length ⟨0, 0, z, 0⟩) (L ++ [some (.row ⟨z, 0, own, ty, el⟩)]) := by
  have hN := h.out L.length (Nat.le_refl _)
  have hle : β.le (β.put L.length ⟨0, 0, z, 0⟩) := Bt.le_put _ hN
  have old : ∀ i K, (L ++ [some (SK.row ⟨z, 0, own, ty, el⟩)])[i]? = some (some K) → (i < L.length ∧ L[i]? = some (some K)) ∨ (i = L.length ∧ K = .row ⟨z, 0, own, ty, el⟩) := by
    intro i K hi
    rcases Nat.lt_or_ge i L.length with h1 | h1
    · rw [List.getElem?_append_left h1] at hi; exact .inl ⟨h1, hi⟩
    · rw [List.getElem?_append_right h1] at hi
      obtain ⟨e1, e2⟩ := single_get hi
      exact .inr ⟨by omega, by cases e2; rfl⟩
  have put_old : ∀ i, i < L.length → β.put L.length ⟨0, 0, z, 0⟩ i = β i := fun i hi => by simp [Bt.put, Nat.ne_of_lt hi]
  refine ⟨fun i K hi => ?_, fun i K p hi hp hc => ?_, fun i j K1 K2 p q hij hi hj hp hq ho hc hc' => ?_, fun i hi => ?_, h.ro, fun i K p b c v hi ho hp hc hv => ?_⟩
  · rcases old i K hi with ⟨h1, h2⟩ | ⟨rfl, rfl⟩
    · obtain ⟨p, hp, rk⟩ := h.blk i K h2
      exact ⟨p, hle.b i p hp, rk.mono hle⟩
    · exact ⟨_, Bt.put_same .., rfl, Nat.le_refl _, fun e he => absurd he (Nat.not_lt_zero _), fun _ h0 => absurd h0 (Nat.lt_irrefl _)⟩
  · rcases old i K hi with ⟨h1, h2⟩ | ⟨rfl, rfl⟩
    · rw [put_old i h1] at hp; exact h.lt i K p h2 hp hc
    · rw [Bt.put_same] at hp; cases hp; exact absurd hc (Nat.lt_irrefl _)
  · rcases old i K1 hi with ⟨h1, h2⟩ | ⟨rfl, rfl⟩
    · rcases old j K2 hj with ⟨h3, h4⟩ | ⟨rfl, rfl⟩
      · rw [put_old i h1] at hp
        rw [put_old j h3] at hq
        exact h.sep i j K1 K2 p q hij h2 h4 hp hq ho hc hc'
      · rw [Bt.put_same] at hq; cases hq; exact absurd hc' (Nat.lt_irrefl _)
    · rw [Bt.put_same] at hp; cases hp; exact absurd hc (Nat.lt_irrefl _)
  · simp only [List.length_append, List.length_cons, List.length_nil] at hi
    have h1 : i ≠ L.length := by omega
    simp only [Bt.put, h1, if_false]
    exact h.out i (by omega)
  · rcases old i K hi with ⟨h1, h2⟩ | ⟨rfl, rfl⟩
    · rw [put_old i h1] at hp
      exact h.rosep i K p b c v h2 ho hp hc hv
    · rw [Bt.put_same] at hp; cases hp; exact absurd hc (Nat.lt_irrefl _)
theorem Sem.ghost (d z : Nat) (ty : TypeId) (hd : lookup s.env d = .v (.slice none 0 0))
    (h : Sem P Q K ⟨s.sz, s.base, (d, .slc s.L.length 0 0) :: s.env, s.L ++ [some (.row ⟨z, 0, true, ty, fun _ => []⟩)]⟩) : Sem P Q K s := by
  intro o β a w hr
  have hN := hr.heap.out s.L.length (Nat.le_refl _)
  have hle : β.le (β.put s.L.length ⟨0, 0, z, 0⟩) := Bt.le_put _ hN
  refine h o (β.put s.L.length ⟨0, 0, z, 0⟩) a w ⟨hr.size, fun n => ?_, relH_ghost hr.heap z ty true _, hr.keep.trans ⟨rfl, rfl, rfl, Nat.le_refl _, fun _ _ _ => rfl, fun i K p hi hp hc => ?_, fun _ _ _ h => h, fun _ _ _ h => .inl h⟩, hr.base, ?_, fun i hi => ?_, hr.defers⟩
  · show RelV _ (lookup ((d, _) :: s.env) n) _
    unfold lookup
    split
    · rename_i e
      subst e
      have hv := hr.env d
      rw [hd] at hv
      exact ⟨_, none, 0, Bt.put_same .., hv, Nat.le_refl _, .inl rfl⟩
    · exact (hr.env n).mono hle
  · rcases Nat.lt_or_ge i s.L.length with h1 | h1
    · rw [List.getElem?_append_left h1] at hi
      simp only [Bt.put, Nat.ne_of_lt h1, if_false] at hp
      exact .inr ⟨i, K, p, hi, hp, hc, rfl, id, .inl rfl⟩
    · rw [List.getElem?_append_right h1] at hi
      obtain ⟨e1, _⟩ := single_get hi
      have : i = s.L.length := by omega
      subst this
      rw [Bt.put_same] at hp
      cases hp
      exact absurd hc (Nat.lt_irrefl _)
  · show s.base ≤ (s.L ++ [_]).length
    rw [List.length_append]
    exact Nat.le_trans hr.blen (Nat.le_add_right _ _)
  · have hi' : i < s.base := hi
    have : i ≠ s.L.length := by have := hr.blen; omega
    simp only [Bt.put, this, if_false]
    exact hr.same i hi'
theorem SQ.runL {fn : Func} {rs : List ResultVar} {R : SE → List (Option SK) → Prop} (l : List Nat) (x : SV) (L' : List (Option SK)) (hr : fn.results.toList = rs) (hR : R (.ret x) L') (hnd : l.Nodup) (hsame : l.take s.base = List.range s.base)
    (hblen : Nat.ble s.base L'.length = true) (hL : wkL (fzOf s.L l L') (rho l s.L.length) s.L l L') (h : obind (sresL P s rs) (fun q => q.2 ∧ Ent (fzOf s.L l L') (rho l s.L.length) x (SV.ofResults q.1)) False ⟨⟩) : SQ P fn R .ret s := by
  cases hq : sresL P s rs with
  | none => rw [hq] at h; exact h.elim
  | some q =>
    rw [hq] at h
    exact ⟨q.1, q.2, by rw [hr, hq], h.1, l, x, L', h.2, ⟨rfl, rfl, Nat.le_of_ble_eq_true hblen, hnd, hsame, trivial, hL⟩, hR⟩
theorem Sem.draw' {ops : Array Oper} {id : Nat} (hm : P.follows .mixedOrders = true) (t : Sch) (ws : List Nat)
    (hok : (Region.noSelect ops && t.ok .any ops ops.size (Array.replicate ops.size false) []) = true)
    (h : ∀ (G : Nat → Option SK) (f : St → Prop), (∀ b, G b = roGet (roL ws 0 s.L) b) → (∀ s', Sem P Q K (s.back ws s') → f s') → swSch P ops.toList G f t (s.ro ws)) : Sem P Q (.code (.region id ops true) :: K) s :=
  Sem.draw hm t ws hok (h _ _ (fun _ => rfl) (fun _ h => h))
theorem after_mk (sz base : Nat) (env : List (Nat × SV)) (L : List (Option SK)) (l : List Nat) (Lc L' : List (Option SK)) : St.after ⟨sz, base, env, L⟩ l Lc L' = ⟨sz, base, env, mergeL (rho l L.length) L l Lc L'⟩ := rfl
theorem mergeL_row (ρ : Nat → Nat) (L : List (Option SK)) (i : Nat) (l : List Nat) (z n : Nat) (ty : TypeId) (el : Nat → List SV) (Lc : List (Option SK)) (K' : Option SK) (L' : List (Option SK)) : mergeL ρ L (i :: l) (some (.row ⟨z, n, false, ty, el⟩) :: Lc) (K' :: L') = mergeL ρ L l Lc L' := by
  simp [mergeL, SK.own]
theorem mergeL_own (ρ : Nat → Nat) (L : List (Option SK)) (i : Nat) (l : List Nat) (z n : Nat) (ty : TypeId) (el : Nat → List SV) (Lc : List (Option SK)) (K' : Option SK) (L' : List (Option SK)) : mergeL ρ L (i :: l) (some (.row ⟨z, n, true, ty, el⟩) :: Lc) (K' :: L') = mergeL ρ (L.set i (K'.map (SK.ren ρ))) l Lc L' := by
  simp [mergeL, SK.own]
theorem mergeL_done (ρ : Nat → Nat) (L L' : List (Option SK)) : mergeL ρ L [] [] L' = L ++ L'.map (Option.map (SK.ren ρ)) := by
  simp [mergeL]
def sapp1 (P : Program) (N : Nat) (get : Nat → Option SK) (d d2 : Option TypeDesc) (x y : SV) : Option SO :=
  match d, d2 with
  | some (.slice elem), some d2 => match tsz P elem, tby P elem, tzero P elem with
    | some s, some by_, some zs => match sDst get s elem x, sSrc get s y with
      | some (n, f, b, ob1), some src =>
        if 0 < s ∧ 0 < by_ ∧ zs.length = s ∧ srcTy d2 = true then
          some ⟨.slc N 0 (n + src.n), { set := b.map fun b => (b, none), new := some (.row ⟨s, n + src.n, true, elem, fun i => if i < n then f i else src.el (i - n)⟩) },
            ob1 ∧ src.ob ∧ (n + src.n) * by_ ≤ 140737488355328⟩
        else none
      | _, _ => none
    | _, _, _ => none
  | _, _ => none
theorem sAppend_eq (t t2 : TypeId) (x y : SV) : sAppend P N get t t2 x y = sapp1 P N get (P.underlying t) (P.underlying t2) x y := rfl
def sapp2 (N : Nat) (elem : TypeId) (ok : Bool) (s by_ z : Nat) (x : Option (Nat × (Nat → List SV) × Option Nat × Prop)) (y : Option Src) : Option SO :=
  match x, y with
  | some (n, f, b, ob1), some src =>
    if 0 < s ∧ 0 < by_ ∧ z = s ∧ ok = true then
      some ⟨.slc N 0 (n + src.n), { set := b.map fun b => (b, none), new := some (.row ⟨s, n + src.n, true, elem, fun i => if i < n then f i else src.el (i - n)⟩) },
        ob1 ∧ src.ob ∧ (n + src.n) * by_ ≤ 140737488355328⟩
    else none
  | _, _ => none
structure ElTy (P : Program) (elem : TypeId) (s by_ : Nat) : Prop where
  hs : tsz P elem = some s
  hb : tby P elem = some by_
  hz : ∃ zs, tzero P elem = some zs ∧ zs.length = s
  hp : 0 < s ∧ 0 < by_
theorem sapp1_eq {elem : TypeId} {s by_ : Nat} (h : ElTy P elem s by_) (d2 : TypeDesc) (hd : srcTy d2 = true) (x y : SV) : sapp1 P N get (some (.slice elem)) (some d2) x y = sapp2 N elem true s by_ s (sDst get s elem x) (sSrc get s y) := by
  obtain ⟨zs, h1, h2⟩ := h.hz
  simp only [sapp1, h.hs, h.hb, h1, h2, hd, sapp2]
theorem sapp1_sl {elem : TypeId} {s by_ : Nat} (h : ElTy P elem s by_) (e2 : TypeId) (x y : SV) : sapp1 P N get (some (.slice elem)) (some (.slice e2)) x y = sapp2 N elem true s by_ s (sDst get s elem x) (sSrc get s y) := sapp1_eq h _ rfl x y
theorem sapp2_some (elem : TypeId) (s by_ n : Nat) (f : Nat → List SV) (b : Option Nat) (ob1 : Prop) (m : Nat) (e : Nat → List SV) (ob2 : Prop) (h1 : 0 < s) (h2 : 0 < by_) :
    sapp2 N elem true s by_ s (some (n, f, b, ob1)) (some ⟨m, e, ob2⟩) = some ⟨.slc N 0 (n + m), ⟨b.map fun b => (b, none), some (.row ⟨s, n + m, true, elem, fun i => if i < n then f i else e (i - n)⟩)⟩, ob1 ∧ ob2 ∧ (n + m) * by_ ≤ 140737488355328⟩ := by
  simp [sapp2, h1, h2]
def sdst1 (K : Option SK) (size : Nat) (elem : TypeId) (b n : Nat) : Option (Nat × (Nat → List SV) × Option Nat × Prop) :=
  match K with
  | some (.row B) => if B.size = size ∧ B.own = true ∧ B.ty = elem then some (n, B.el, some b, n ≤ B.n) else none
  | _ => none
theorem sDst_slc (size : Nat) (elem : TypeId) (b n : Nat) : sDst get size elem (.slc b 0 n) = sdst1 (get b) size elem b n := rfl
theorem sDst_nil (size : Nat) (elem : TypeId) : sDst get size elem (.v (.slice none 0 0)) = some (0, fun _ => [], none, True) := rfl
theorem sdst1_row (size m : Nat) (elem : TypeId) (el : Nat → List SV) (b n : Nat) : sdst1 (some (.row ⟨size, m, true, elem, el⟩)) size elem b n = some (n, el, some b, n ≤ m) := by simp [sdst1]
def ssrc1 (K : Option SK) (size e n : Nat) : Option Src :=
  match K with
  | some (.row B) => if B.size = size then some ⟨n, fun i => B.el (e + i), e + n ≤ B.n⟩ else none
  | _ => none
theorem sSrc_slc (size b e n : Nat) : sSrc get size (.slc b e n) = ssrc1 (get b) size e n := rfl
theorem sSrc_nil (size : Nat) : sSrc get size (.v (.slice none 0 0)) = some ⟨0, fun _ => [], True⟩ := rfl
theorem ssrc1_row (size m : Nat) (own : Bool) (ty : TypeId) (el : Nat → List SV) (e n : Nat) : ssrc1 (some (.row ⟨size, m, own, ty, el⟩)) size e n = some ⟨n, fun i => el (e + i), e + n ≤ m⟩ := by simp [ssrc1]
theorem sSrc_str (s : ByteArray) : sSrc get 1 (.v (.string s)) = some ⟨s.size, fun i => [.v (.int .u8 (strAt s i))], True⟩ := rfl
theorem buildSlice_one {t elem : TypeId} {s : Nat} {zs : List Value} (h : P.underlying t = some (.slice elem)) (hs : tsz P elem = some s) (hz : tzero P elem = some zs) (h1 : 0 < s) (h2 : zs.length = s) (h3 : s ≤ 16777216) (l : List SV) (x : SV) (hx : x.cells = some l) (hl : l.length = s) (ho : l.all SV.one = true) :
    sBuildSlice P N t 1 [(0, x)] = some ⟨.slc N 0 1, ⟨none, some (.row ⟨s, 1, true, elem, fun e => (l.drop (e * s)).take s⟩)⟩, True⟩ := by
  have e1 : zerosOf zs 1 = zs.map .v := by simp [zerosOf]
  unfold sBuildSlice
  simp only [h, hs, hz, e1]
  rw [if_pos ⟨h1, h2, by omega⟩]
  have e2 : sfill (fun i => some (i * s, s)) (zs.map SV.v) [(0, x)] = some l := by
    rw [sfill_cons, hx, sfill1_some _ _ _ _ _ _ hl (by simp [h2]), sfill_nil, Nat.zero_mul, splice_all _ _ (by simp [h2, hl])]
  simp only [e2]
  rw [if_pos ho]
end
end Go.SL
