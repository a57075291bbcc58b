/- Contracts of functions that the laws reach, on abstract values, and what they need: no conditions but those that each theorem states. -/
import Derived.Test.YtheodenjjaoncaaSlN
set_option linter.unusedVariables false
set_option linter.unusedSimpArgs false
set_option linter.defProp false
namespace Go.SL
open Go
set_option linter.unusedVariables false
section
variable {P : Program} {Q : SX → St → Prop} {K : List It} {s : St} {all rest : List Oper} {get : Nat → Option SK} {N : Nat}
def brows (l : List UInt8) : List (List SV) := l.map fun c => [.v (.int .u8 c.toNat)]
abbrev bsl (l : List UInt8) : SV := .rsl 1 (brows l)
theorem brows_length (l : List UInt8) : (brows l).length = l.length := by simp [brows]
theorem brows_getD (l : List UInt8) (i : Nat) (h : i < l.length) : (brows l).getD i [] = [.v (.int .u8 (l.getD i 0).toNat)] := by
  simp [brows, List.getD_eq_getElem?_getD, h]
theorem brows_take (l : List UInt8) (n : Nat) : (brows l).take n = brows (l.take n) := by simp [brows, List.map_take]
theorem brows_drop (l : List UInt8) (n : Nat) : (brows l).drop n = brows (l.drop n) := by simp [brows, List.map_drop]
theorem u8_ofNat (c : UInt8) : SV.u8 (.v (.int .u8 c.toNat)) = c := by simp [SV.u8, SV.byte]
theorem bytes_brows (l : List UInt8) : bytesOfRows (brows l) = l := by
  unfold bytesOfRows brows
  rw [List.map_map]
  conv => rhs; rw [← List.map_id l]
  refine List.map_congr_left fun c _ => ?_
  simp [cellAt, u8_ofNat]
theorem isByte_brows (l : List UInt8) : isByteRows (brows l) := by
  intro r hr
  obtain ⟨c, _, rfl⟩ := List.mem_map.1 hr
  exact ⟨_, rfl⟩
mutual
def SV.flat : SV → Bool
  | .any => true
  | .v _ => true
  | .ptr _ _ _ => false
  | .slc _ _ _ => false
  | .asl _ _ _ _ => false
  | .agg l => SV.flatL l
  | .tup l => SV.flatL l
  | .ifc _ x => x.flat
  | .fn _ a b => SV.flatL a && SV.flatL b
  | .rsl _ rows => SV.flatR rows
  | .rp row _ => SV.flatL row
def SV.flatL : List SV → Bool
  | [] => true
  | x :: xs => x.flat && SV.flatL xs
def SV.flatR : List (List SV) → Bool
  | [] => true
  | x :: xs => SV.flatL x && SV.flatR xs
end
mutual
theorem SV.flat_ren (ρ : Nat → Nat) : ∀ (x : SV), x.flat = true → x.ren ρ = x
  | .any, _ => rfl
  | .v _, _ => rfl
  | .ptr _ _ _, h => by simp [SV.flat] at h
  | .slc _ _ _, h => by simp [SV.flat] at h
  | .asl _ _ _ _, h => by simp [SV.flat] at h
  | .agg l, h => by simp only [SV.ren, SV.flatL_ren ρ l (by simpa [SV.flat] using h)]
  | .tup l, h => by simp only [SV.ren, SV.flatL_ren ρ l (by simpa [SV.flat] using h)]
  | .ifc _ x, h => by simp only [SV.ren, SV.flat_ren ρ x (by simpa [SV.flat] using h)]
  | .fn _ a b, h => by
    simp only [SV.flat, Bool.and_eq_true] at h
    simp only [SV.ren, SV.flatL_ren ρ a h.1, SV.flatL_ren ρ b h.2]
  | .rsl _ rows, h => by simp only [SV.ren, SV.flatR_ren ρ rows (by simpa [SV.flat] using h)]
  | .rp row _, h => by simp only [SV.ren, SV.flatL_ren ρ row (by simpa [SV.flat] using h)]
theorem SV.flatL_ren (ρ : Nat → Nat) : ∀ (l : List SV), SV.flatL l = true → SV.renL ρ l = l
  | [], _ => rfl
  | x :: xs, h => by
    simp only [SV.flatL, Bool.and_eq_true] at h
    simp only [SV.renL, SV.flat_ren ρ x h.1, SV.flatL_ren ρ xs h.2]
theorem SV.flatR_ren (ρ : Nat → Nat) : ∀ (l : List (List SV)), SV.flatR l = true → SV.renR ρ l = l
  | [], _ => rfl
  | x :: xs, h => by
    simp only [SV.flatR, Bool.and_eq_true] at h
    simp only [SV.renR, SV.flatL_ren ρ x h.1, SV.flatR_ren ρ xs h.2]
end
theorem flatL_append (l m : List SV) (h : SV.flatL l = true) (h' : SV.flatL m = true) : SV.flatL (l ++ m) = true := by
  induction l with
  | nil => exact h'
  | cons x l ih =>
    simp only [SV.flatL, Bool.and_eq_true] at h
    simp only [List.cons_append, SV.flatL, Bool.and_eq_true]
    exact ⟨h.1, ih h.2⟩
theorem flatL_of (l : List SV) (h : ∀ x ∈ l, x.flat = true) : SV.flatL l = true := by
  induction l with
  | nil => rfl
  | cons x l ih =>
    simp only [SV.flatL, Bool.and_eq_true]
    exact ⟨h x (by simp), ih fun y hy => h y (by simp [hy])⟩
theorem flatR_of (l : List (List SV)) (h : ∀ x ∈ l, SV.flatL x = true) : SV.flatR l = true := by
  induction l with
  | nil => rfl
  | cons x l ih =>
    simp only [SV.flatR, Bool.and_eq_true]
    exact ⟨h x (by simp), ih fun y hy => h y (by simp [hy])⟩
theorem flatR_map {α : Type} (f : α → List SV) (l : List α) (h : ∀ x, SV.flatL (f x) = true) : SV.flatR (l.map f) = true :=
  flatR_of _ fun x hx => by obtain ⟨y, _, rfl⟩ := List.mem_map.1 hx; exact h y
theorem flatR_brows (l : List UInt8) : SV.flatR (brows l) = true := flatR_map _ _ fun _ => rfl
theorem flat_v (x : Value) : SV.flat (.v x) = true := Eq.trans rfl rfl
theorem flat_agg (l : List SV) : SV.flat (.agg l) = SV.flatL l := Eq.trans rfl rfl
theorem flat_tup (l : List SV) : SV.flat (.tup l) = SV.flatL l := Eq.trans rfl rfl
theorem flat_rsl (z : Nat) (l : List (List SV)) : SV.flat (.rsl z l) = SV.flatR l := Eq.trans rfl rfl
theorem flat_rp (l : List SV) (k : Nat) : SV.flat (.rp l k) = SV.flatL l := Eq.trans rfl rfl
theorem flat_ifc (t : TypeId) (x : SV) : SV.flat (.ifc t x) = x.flat := Eq.trans rfl rfl
theorem flatL_cons (x : SV) (l : List SV) : SV.flatL (x :: l) = (x.flat && SV.flatL l) := Eq.trans rfl rfl
theorem flatL_nil : SV.flatL [] = true := Eq.trans rfl rfl
theorem flatR_cons (x : List SV) (l : List (List SV)) : SV.flatR (x :: l) = (SV.flatL x && SV.flatR l) := Eq.trans rfl rfl
theorem flatR_nil : SV.flatR [] = true := Eq.trans rfl rfl
theorem Ent.self {fz : Nat → Option SB} {ρ : Nat → Nat} {x : SV} (h : x.flat = true) : Ent fz ρ x x := Ent.eq (SV.flat_ren ρ x h).symm
theorem EntL.self {fz : Nat → Option SB} {ρ : Nat → Nat} {x : List SV} (h : SV.flatL x = true) : EntL fz ρ x x := EntL.eq (SV.flatL_ren ρ x h).symm
theorem EntR.self {fz : Nat → Option SB} {ρ : Nat → Nat} {x : List (List SV)} (h : SV.flatR x = true) : EntR fz ρ x x := EntR.eq (SV.flatR_ren ρ x h).symm
def nodupN : List Nat → Bool
  | [] => true
  | x :: l => !(l.any (Nat.beq x)) && nodupN l
theorem nodupN_spec : ∀ {l : List Nat}, nodupN l = true → l.Nodup
  | [], _ => List.nodup_nil
  | x :: l, h => by
    simp only [nodupN, Bool.and_eq_true, Bool.not_eq_true'] at h
    refine List.nodup_cons.2 ⟨fun hx => ?_, nodupN_spec h.2⟩
    have h1 := h.1
    rw [List.any_eq_false] at h1
    exact h1 x hx (by simp)
def wkC (l : List Nat) (s s' : St) : Prop := (s'.sz = s.sz ∧ s'.base = s.base ∧ Nat.ble s'.base s'.L.length = true ∧ nodupN l = true ∧ (l.take s.base == List.range s.base) = true) ∧ wkEnv (fzOf s.L l s'.L) (rho l s.L.length) s.env s'.env ∧ wkL (fzOf s.L l s'.L) (rho l s.L.length) s.L l s'.L
theorem Wk.ofC {l : List Nat} {s s' : St} (h : wkC l s s') : Wk l s s' :=
  ⟨h.1.1, h.1.2.1, by simpa using h.1.2.2.1, nodupN_spec h.1.2.2.2.1, by simpa using h.1.2.2.2.2, h.2.1, h.2.2⟩
theorem wkC_mk (l : List Nat) (sz base sz' base' : Nat) (env env' : List (Nat × SV)) (L L' : List (Option SK)) : wkC l ⟨sz, base, env, L⟩ ⟨sz', base', env', L'⟩ =
    ((sz' = sz ∧ base' = base ∧ Nat.ble base' L'.length = true ∧ nodupN l = true ∧ (l.take base == List.range base) = true) ∧ wkEnv (fzOf L l L') (rho l L.length) env env' ∧ wkL (fzOf L l L') (rho l L.length) L l L') := rfl
variable {fz : Nat → Option SB} {ρ : Nat → Nat}
theorem wkEnv_nil (env : List (Nat × SV)) : wkEnv fz ρ env [] = True := Eq.trans rfl rfl
theorem wkEnv_cons (env : List (Nat × SV)) (n : Nat) (x : SV) (r : List (Nat × SV)) : wkEnv fz ρ env ((n, x) :: r) = (Ent fz ρ x (lookup env n) ∧ wkEnv fz ρ env r) := Eq.trans rfl rfl
theorem wkL_nil (L : List (Option SK)) : wkL fz ρ L [] [] = True := Eq.trans rfl rfl
theorem wkL_cnone (L : List (Option SK)) (i : Nat) (l : List Nat) (r : List (Option SK)) : wkL fz ρ L (i :: l) (none :: r) = wkL fz ρ L l r := Eq.trans rfl rfl
theorem wkL_csome (L : List (Option SK)) (i : Nat) (l : List Nat) (K : SK) (r : List (Option SK)) : wkL fz ρ L (i :: l) (some K :: r) = (SK.leO fz ρ (getL L i) K ∧ wkL fz ρ L l r) := Eq.trans rfl rfl
theorem leO_row (z n z' n' : Nat) (o o' : Bool) (t t' : TypeId) (el el' : Nat → List SV) : SK.leO fz ρ (some (.row ⟨z, n, o, t, el⟩)) (.row ⟨z', n', o', t', el'⟩) = ((z = z' ∧ n' = n ∧ t = t' ∧ (o' = true → o = true)) ∧ ∀ e, e < n' → EntL fz ρ (el' e) (el e)) := by
  simp [SK.leO, EntK, and_assoc]
theorem leO_it (b b' : ByteArray) (p p' : Nat) : SK.leO fz ρ (some (.it b p)) (.it b' p') = (b = b' ∧ p = p') := rfl
theorem Ent_any (o : SV) : Ent fz ρ .any o = True := Eq.trans rfl rfl
theorem Ent_v (y z : Value) : Ent fz ρ (.v y) (.v z) = (z = y) := by simp [Ent]
theorem Ent_ptr (b e k b' e' k' : Nat) : Ent fz ρ (.ptr b e k) (.ptr b' e' k') = (b' = ρ b ∧ e' = e ∧ k' = k) := by simp [Ent]
theorem Ent_slc (b e k b' e' k' : Nat) : Ent fz ρ (.slc b e k) (.slc b' e' k') = (b' = ρ b ∧ e' = e ∧ k' = k) := by simp [Ent]
theorem Ent_asl (b e k n b' e' k' n' : Nat) : Ent fz ρ (.asl b e k n) (.asl b' e' k' n') = (b' = ρ b ∧ e' = e ∧ k' = k ∧ n' = n) := by simp [Ent]
theorem Ent_agg (l l' : List SV) : Ent fz ρ (.agg l) (.agg l') = EntL fz ρ l l' := by simp [Ent]
theorem Ent_tup (l l' : List SV) : Ent fz ρ (.tup l) (.tup l') = EntL fz ρ l l' := by simp [Ent]
theorem Ent_ifc (t t' : TypeId) (x x' : SV) : Ent fz ρ (.ifc t x) (.ifc t' x') = (t' = t ∧ Ent fz ρ x x') := by
  simp only [Ent, SV.ifc.injEq, eq_iff_iff]
  constructor
  · rintro ⟨y, ⟨h1, h2⟩, h3⟩; subst h2; exact ⟨h1, h3⟩
  · rintro ⟨h1, h2⟩; exact ⟨x', ⟨h1, rfl⟩, h2⟩
theorem EntL_nil : EntL fz ρ [] [] = True := by simp [EntL]
theorem EntL_cons (x y : SV) (l m : List SV) : EntL fz ρ (x :: l) (y :: m) = (Ent fz ρ x y ∧ EntL fz ρ l m) := by
  simp only [EntL, List.cons.injEq, eq_iff_iff]
  constructor
  · rintro ⟨a, b, ⟨rfl, rfl⟩, h1, h2⟩; exact ⟨h1, h2⟩
  · rintro ⟨h1, h2⟩; exact ⟨y, m, ⟨rfl, rfl⟩, h1, h2⟩
theorem Ent_self (x : SV) (h : x.flat = true) : Ent fz ρ x x = True := eq_true (Ent.self h)
theorem EntL_self (x : List SV) (h : SV.flatL x = true) : EntL fz ρ x x = True := eq_true (EntL.self h)
def frz1 (K : Option SB) (fz : Nat → Option SB) (ρ : Nat → Nat) (z : Nat) (rows : List (List SV)) (e n : Nat) : Prop :=
  match K with
  | some B => (n = rows.length ∧ B.size = z ∧ e + n ≤ B.n) ∧ ∀ (i : Nat) r, rows[i]? = some r → EntL fz ρ r (B.el (e + i))
  | none => False
theorem Ent_row {L : List (Option SK)} {l : List Nat} {L' : List (Option SK)} {z : Nat} {rows : List (List SV)} {b e n m : Nat} {ty : TypeId} {el : Nat → List SV} (h : getL L b = some (.row ⟨z, m, true, ty, el⟩)) (hk : keptB l L' b = false) (hlen : n = rows.length) (hm : e + n ≤ m)
    (hel : ∀ (i : Nat) r, rows[i]? = some r → EntL (fzOf L l L') ρ r (el (e + i))) : Ent (fzOf L l L') ρ (.rsl z rows) (.slc b e n) := by
  refine .inr (.inl ⟨b, e, ⟨z, m, true, ty, el⟩, by rw [hlen], by simp [fzOf, h, hk], rfl, by rw [← hlen]; exact hm, EntF.of hel⟩)
theorem Ent_nilsl (z : Nat) : Ent fz ρ (.rsl z []) (.v (.slice none 0 0)) = True := eq_true (.inr (.inr ⟨rfl, rfl⟩))
def sslice4 (s' : Option Nat) (s : Nat) (rows : List (List SV)) (l h : Option Int) : Option SO :=
  match l, h with
  | some l, some h => if s' = some s then some ⟨.rsl s ((rows.take h.toNat).drop l.toNat), {}, 0 ≤ l ∧ l ≤ h ∧ h ≤ rows.length⟩ else none
  | _, _ => none
theorem sslice4_some (s : Nat) (rows : List (List SV)) (l h : Int) : sslice4 (some s) s rows (some l) (some h) = some ⟨.rsl s ((rows.take h.toNat).drop l.toNat), {}, 0 ≤ l ∧ l ≤ h ∧ h ≤ rows.length⟩ := by simp [sslice4]
theorem sBound_none (d : Int) : sBound none d = some d := rfl
theorem sBound_int (k : IntKind) (n d : Int) : sBound (some (.v (.int k n))) d = some n := rfl
theorem sInt_int (k : IntKind) (n : Int) : sInt? (.v (.int k n)) = some n := rfl
theorem sSrc_rsl (size : Nat) (rows : List (List SV)) : sSrc get size (.rsl size rows) = some ⟨rows.length, fun i => rows.getD i [], True⟩ := by simp [sSrc]
theorem ren_rsl (z : Nat) (rows : List (List SV)) : SV.ren ρ (.rsl z rows) = .rsl z (SV.renR ρ rows) := rfl
theorem cells_rsl (z : Nat) (rows : List (List SV)) : SV.cells (.rsl z rows) = some [.rsl z rows] := rfl
theorem cells_rp (row : List SV) (k : Nat) : SV.cells (.rp row k) = some [.rp row k] := rfl
theorem one_rsl (z : Nat) (rows : List (List SV)) : SV.one (.rsl z rows) = true := rfl
theorem one_rp (row : List SV) (k : Nat) : SV.one (.rp row k) = true := rfl
theorem sKnown_rsl (z : Nat) (rows : List (List SV)) : sKnown (.rsl z rows) = some (.rsl z rows, True) := rfl
theorem sKnown_ifc (t : TypeId) (x : SV) : sKnown (.ifc t x) = some (.ifc t x, True) := rfl
theorem sstore2_rsl (z : Nat) (ty : TypeId) (el : Nat → List SV) (z1 : Nat) (rows : List (List SV)) (b e k : Nat) (h1 : k + 1 ≤ z) :
    sstore2 (some (.row ⟨z, 1, true, ty, el⟩)) (some 1) (some [.rsl z1 rows]) b e k = some ⟨.any, ⟨some (b, some (.row ⟨z, 1, true, ty, fun _ => splice (el 0) k [.rsl z1 rows]⟩)), none⟩, e < 1⟩ :=
  sstore2_one' z ty el 1 _ b e k h1 rfl rfl
theorem SQ.answer {fn : Func} {rs : List ResultVar} {x : SV} (hr : fn.results.toList = rs) (hb : s.base = 0) (h : obind (sresL P s rs) (fun q => q.2 ∧ Ent (fzOf s.L [] []) (rho [] s.L.length) x (SV.ofResults q.1)) False ⟨⟩) :
    SQ P fn (fun r L => r = .ret x ∧ L = []) .ret s := by
  cases hq : sresL P s rs with
  | none => rw [hq] at h; exact h.elim
  | some q =>
    rw [hq] at h
    refine ⟨q.1, q.2, by rw [hr, hq], h.1, [], x, [], h.2, ⟨rfl, rfl, by show s.base ≤ 0; omega, List.nodup_nil, by rw [hb]; rfl, trivial, trivial⟩, rfl, rfl⟩
theorem keptB_nil (b : Nat) : keptB [] [] b = false := rfl
theorem KQ_cut {o : Org} {J : St → Prop} (h1 : ∀ s', J s' → Sem P Q K s') : ∀ (pre : List It) (e : Exit) (a : Act) (w : World), KQ P o Q (pre ++ .inv J :: K) e a w → KQ P o Q (pre ++ K) e a w
  | [], e, a, w, h => by
    cases e with
    | normal =>
      obtain ⟨β, s', hJ, hr⟩ := h
      exact h1 s' hJ o β a w hr
    | exit id => exact h
    | goto l => exact h
    | ret => exact h
    | panic ch => exact h
    | outgrown => exact h
  | .code c :: pre, e, a, w, h => by
    cases e with
    | normal =>
      have h' : c.wp P (KQ P o Q (pre ++ .inv J :: K)) a w := h
      exact wp_mono h' fun e a w hh => KQ_cut h1 pre e a w hh
    | exit id => exact KQ_cut h1 pre _ a w h
    | goto l => exact KQ_cut h1 pre _ a w h
    | ret => exact KQ_cut h1 pre _ a w h
    | panic ch => exact KQ_cut h1 pre _ a w h
    | outgrown => exact KQ_cut h1 pre _ a w h
  | .inv J2 :: pre, e, a, w, h => by
    cases e with
    | normal => exact h
    | exit id => exact KQ_cut h1 pre _ a w h
    | goto l => exact KQ_cut h1 pre _ a w h
    | ret => exact KQ_cut h1 pre _ a w h
    | panic ch => exact KQ_cut h1 pre _ a w h
    | outgrown => exact KQ_cut h1 pre _ a w h
  | .blk id :: pre, e, a, w, h => by
    have h' : Exit.inBlock id (KQ P o Q (pre ++ .inv J :: K)) e a w := h
    show Exit.inBlock id (KQ P o Q (pre ++ K)) e a w
    cases e with
    | exit i =>
      unfold Exit.inBlock at h' ⊢
      simp only at h' ⊢
      split
      · rename_i e; rw [if_pos e] at h'; exact KQ_cut h1 pre _ a w h'
      · rename_i e; rw [if_neg e] at h'; exact KQ_cut h1 pre _ a w h'
    | normal => exact KQ_cut h1 pre _ a w h'
    | goto l => exact KQ_cut h1 pre _ a w h'
    | ret => exact KQ_cut h1 pre _ a w h'
    | panic ch => exact KQ_cut h1 pre _ a w h'
    | outgrown => exact KQ_cut h1 pre _ a w h'
theorem Sem.cutJ (pre : List It) (J : St → Prop) (h2 : Sem P Q (pre ++ .inv J :: K) s) (h1 : ∀ s', J s' → Sem P Q K s') : Sem P Q (pre ++ K) s :=
  fun o β a w hr => KQ_cut h1 pre .normal a w (h2 o β a w hr)
theorem Sem.cutW (pre : List It) (s1 : St) (h2 : Sem P Q (pre ++ .inv (fun s' => ∃ l, Wk l s' s1) :: K) s) (h1 : Sem P Q K s1) : Sem P Q (pre ++ K) s :=
  Sem.cutJ pre _ h2 fun s' ⟨l, hw⟩ => Sem.weaken l hw h1
theorem sw_zero : sw P Q 0 K s = Sem P Q K s := Eq.trans rfl rfl
def slen1 (d : Option TypeDesc) (x : SV) : Option SO :=
  match d, x with
  | some .string, .v (.string s) => some ⟨.v (.int .i64 s.size), {}, True⟩
  | some (.array n _), _ => some ⟨.v (.int .i64 n), {}, True⟩
  | some (.slice _), .slc _ _ n => some ⟨.v (.int .i64 n), {}, True⟩
  | some (.slice _), .asl _ _ _ n => some ⟨.v (.int .i64 n), {}, True⟩
  | some (.slice _), .rsl _ rows => some ⟨.v (.int .i64 rows.length), {}, True⟩
  | some (.slice _), .v (.slice _ n _) => some ⟨.v (.int .i64 n), {}, True⟩
  | _, _ => none
theorem sLen_eq (t : TypeId) (x : SV) : sLen P t x = slen1 (P.underlying t) x := rfl
theorem slen1_slc (e : TypeId) (b i n : Nat) : slen1 (some (.slice e)) (.slc b i n) = some ⟨.v (.int .i64 n), {}, True⟩ := rfl
theorem slen1_asl (e : TypeId) (b i k n : Nat) : slen1 (some (.slice e)) (.asl b i k n) = some ⟨.v (.int .i64 n), {}, True⟩ := rfl
theorem slen1_rsl (e : TypeId) (z : Nat) (rows : List (List SV)) : slen1 (some (.slice e)) (.rsl z rows) = some ⟨.v (.int .i64 rows.length), {}, True⟩ := rfl
theorem slen1_nil (e : TypeId) (a : Option Addr) (n c : Nat) : slen1 (some (.slice e)) (.v (.slice a n c)) = some ⟨.v (.int .i64 n), {}, True⟩ := rfl
theorem slen1_str (s : ByteArray) : slen1 (some .string) (.v (.string s)) = some ⟨.v (.int .i64 s.size), {}, True⟩ := rfl
theorem slen1_arr (n : Nat) (e : TypeId) (x : SV) : slen1 (some (.array n e)) x = some ⟨.v (.int .i64 n), {}, True⟩ := rfl
def sconv2 (P : Program) (rows : List (List SV)) (d d' : Option TypeDesc) : Option SO :=
  match d, d' with
  | some (.slice el), some .string => match P.underlying el with
    | some (.int .u8) => some ⟨.v (.string ⟨(bytesOfRows rows).toArray⟩), {}, isByteRows rows⟩
    | _ => none
  | _, _ => none
theorem sConv_rsl1 (a b : TypeId) (rows : List (List SV)) : sConv P get a b (.rsl 1 rows) = sconv2 P rows (P.underlying a) (P.underlying b) := by
  simp only [sConv, sconv2, if_true]
  cases P.underlying a with
  | none => rfl
  | some d => cases d <;> cases P.underlying b with
    | none => rfl
    | some d' => cases d' <;> rfl
def sconv3 (d : Option TypeDesc) (rows : List (List SV)) : Option SO :=
  match d with
  | some (.int .u8) => some ⟨.v (.string ⟨(bytesOfRows rows).toArray⟩), {}, isByteRows rows⟩
  | _ => none
theorem sconv2_some (e : TypeId) (rows : List (List SV)) : sconv2 P rows (some (.slice e)) (some .string) = sconv3 (P.underlying e) rows := rfl
theorem sconv3_some (rows : List (List SV)) : sconv3 (some (.int .u8)) rows = some ⟨.v (.string ⟨(bytesOfRows rows).toArray⟩), {}, isByteRows rows⟩ := rfl
def sconv4 (s : ByteArray) (d d' : Option TypeDesc) : Option SO :=
  match d, d' with
  | some _, some .string => some ⟨.v (.string s), {}, True⟩
  | _, _ => none
theorem sConv_str1 (a b : TypeId) (s : ByteArray) : sConv P get a b (.v (.string s)) = sconv4 s (P.underlying a) (P.underlying b) := rfl
theorem sconv4_some (s : ByteArray) (d : TypeDesc) : sconv4 s (some d) (some .string) = some ⟨.v (.string s), {}, True⟩ := rfl
def sconv5 (P : Program) (src dst : TypeId) (K : Option SK) (b e n : Nat) (d d' : Option TypeDesc) : Option SO :=
  match d, d', K with
    | some (.slice el), some .string, some (.row B) => match P.underlying el with
      | some (.int .u8) => if B.size = 1 then some ⟨.v (.string ⟨(bytesOfRow B e n).toArray⟩), {}, e + n ≤ B.n ∧ isByteRow B e n⟩ else none
      | _ => none
    | some (.slice _), some (.slice el), some (.row B) => match P.underlying el with
      | some (.int .u8) => if src = dst ∧ B.own = true then some ⟨.slc b e n, { set := some (b, some (.row { B with own := false })) }, 0 < n⟩ else none
      | _ => none
    | _, _, _ => none
theorem sConv_slc1 (a c : TypeId) (b e n : Nat) : sConv P get a c (.slc b e n) = sconv5 P a c (get b) b e n (P.underlying a) (P.underlying c) := rfl
def sconv6 (d : Option TypeDesc) (B : SB) (e n : Nat) : Option SO :=
  match d with
  | some (.int .u8) => some ⟨.v (.string ⟨(bytesOfRow B e n).toArray⟩), {}, e + n ≤ B.n ∧ isByteRow B e n⟩
  | _ => none
theorem sconv5_str (src dst el0 : TypeId) (m : Nat) (own : Bool) (ty : TypeId) (el : Nat → List SV) (b e n : Nat) : sconv5 P src dst (some (.row ⟨1, m, own, ty, el⟩)) b e n (some (.slice el0)) (some .string) = sconv6 (P.underlying el0) ⟨1, m, own, ty, el⟩ e n := by
  simp only [sconv5, sconv6, if_true]
theorem sconv6_some (B : SB) (e n : Nat) : sconv6 (some (.int .u8)) B e n = some ⟨.v (.string ⟨(bytesOfRow B e n).toArray⟩), {}, e + n ≤ B.n ∧ isByteRow B e n⟩ := rfl
def sslice5 (P : Program) (d : Option TypeDesc) (z : Nat) (rows : List (List SV)) (l h : Option Int) : Option SO :=
  match d with
  | some (.slice e) => sslice4 (tsz P e) z rows l h
  | _ => none
theorem sSlice_rsl1 (t : TypeId) (z : Nat) (rows : List (List SV)) (lo hi : Option SV) : sSlice P get t (.rsl z rows) lo hi = sslice5 P (P.underlying t) z rows (sBound lo 0) (sBound hi rows.length) := by
  simp only [sSlice, sslice5, sslice4]
  cases P.underlying t with
  | none => rfl
  | some d => cases d <;> cases sBound lo 0 <;> cases sBound hi rows.length <;> rfl
theorem sslice5_some (e : TypeId) (z : Nat) (rows : List (List SV)) (l h : Option Int) : sslice5 P (some (.slice e)) z rows l h = sslice4 (tsz P e) z rows l h := rfl
def sslice6 (d : Option TypeDesc) (s : ByteArray) (l h : Option Int) : Option SO :=
  match d, l, h with
  | some .string, some l, some h => some ⟨.v (.string (s.extract l.toNat h.toNat)), {}, 0 ≤ l ∧ l ≤ h ∧ h ≤ s.size⟩
  | _, _, _ => none
theorem sSlice_str1 (t : TypeId) (s : ByteArray) (lo hi : Option SV) : sSlice P get t (.v (.string s)) lo hi = sslice6 (P.underlying t) s (sBound lo 0) (sBound hi s.size) := rfl
theorem sslice6_some (s : ByteArray) (l h : Int) : sslice6 (some .string) s (some l) (some h) = some ⟨.v (.string (s.extract l.toNat h.toNat)), {}, 0 ≤ l ∧ l ≤ h ∧ h ≤ s.size⟩ := rfl
def sslice7 (P : Program) (K : Option SK) (d : Option TypeDesc) (b e : Nat) (n : Nat) (l h : Option Int) : Option SO :=
  match d, K, l, h with
  | some (.slice elem), some (.row B), some l, some h => if tsz P elem = some B.size then some ⟨.slc b (e + l.toNat) (h - l).toNat, {}, 0 ≤ l ∧ l ≤ h ∧ h ≤ n⟩ else none
  | _, _, _, _ => none
theorem sSlice_slc1 (t : TypeId) (b e n : Nat) (lo hi : Option SV) : sSlice P get t (.slc b e n) lo hi = sslice7 P (get b) (P.underlying t) b e n (sBound lo 0) (sBound hi n) := rfl
def sslice8 (s : Option Nat) (z b e n : Nat) (l h : Int) : Option SO := if s = some z then some ⟨.slc b (e + l.toNat) (h - l).toNat, {}, 0 ≤ l ∧ l ≤ h ∧ h ≤ n⟩ else none
theorem sslice7_some (elem : TypeId) (z m : Nat) (own : Bool) (ty : TypeId) (el : Nat → List SV) (b e n : Nat) (l h : Int) : sslice7 P (some (.row ⟨z, m, own, ty, el⟩)) (some (.slice elem)) b e n (some l) (some h) = sslice8 (tsz P elem) z b e n l h := rfl
theorem sslice8_some (z b e n : Nat) (l h : Int) : sslice8 (some z) z b e n l h = some ⟨.slc b (e + l.toNat) (h - l).toNat, {}, 0 ≤ l ∧ l ≤ h ∧ h ≤ n⟩ := by simp [sslice8]
def six1 (P : Program) (d : Option TypeDesc) (x : SV) (i : Int) : Option SO :=
  match x with
    | .agg l => match d with
      | some (.array n elem) => match tsz P elem, tagg P elem with
        | some s, some g => if l.length = n * s ∧ (g = false → s = 1) then some ⟨spart g l (i.toNat * s) s, {}, 0 ≤ i ∧ i < n⟩ else none
        | _, _ => none
      | _ => none
    | .v (.string s) => match d with
      | some .string => some ⟨.v (.int .u8 (strAt s i.toNat)), {}, 0 ≤ i ∧ i < s.size⟩
      | _ => none
    | _ => none
theorem sIndex_int (t : TypeId) (x : SV) (k : IntKind) (i : Int) : sIndex P t x (.v (.int k i)) = six1 P (P.underlying t) x i := rfl
theorem six1_str (s : ByteArray) (i : Int) : six1 P (some .string) (.v (.string s)) i = some ⟨.v (.int .u8 (strAt s i.toNat)), {}, 0 ≤ i ∧ i < s.size⟩ := rfl
def six2 (s : Option Nat) (g : Option Bool) (n : Nat) (l : List SV) (i : Int) : Option SO :=
  match s, g with
  | some s, some g => if l.length = n * s ∧ (g = false → s = 1) then some ⟨spart g l (i.toNat * s) s, {}, 0 ≤ i ∧ i < n⟩ else none
  | _, _ => none
theorem six1_arr (n : Nat) (e : TypeId) (l : List SV) (i : Int) : six1 P (some (.array n e)) (.agg l) i = six2 (tsz P e) (tagg P e) n l i := rfl
theorem six2_agg (s n : Nat) (l : List SV) (i : Int) (h : l.length = n * s) : six2 (some s) (some true) n l i = some ⟨.agg ((l.drop (i.toNat * s)).take s), {}, 0 ≤ i ∧ i < n⟩ := by simp [six2, h, spart]
theorem six2_cell (n : Nat) (l : List SV) (i : Int) (h : l.length = n) : six2 (some 1) (some false) n l i = some ⟨cellAt l i.toNat, {}, 0 ≤ i ∧ i < n⟩ := by simp [six2, h, spart]
theorem sMin_int (k k' : IntKind) (a b : Int) : sMin (.v (.int k a)) (.v (.int k' b)) = some ⟨.v (.int k (if b < a then b else a)), {}, True⟩ := rfl
theorem sMax_int (k k' : IntKind) (a b : Int) : sMax (.v (.int k a)) (.v (.int k' b)) = some ⟨.v (.int k (if b > a then b else a)), {}, True⟩ := rfl
theorem isByte_brows_eq (l : List UInt8) : isByteRows (brows l) = True := eq_true (isByte_brows l)
theorem sBin_str (op : BinOp) (t : TypeId) (a b : ByteArray) : sBin P op t (.v (.string a)) (.v (.string b)) = sStr op a b := rfl
theorem sStr_eql (a b : ByteArray) : sStr .eql a b = some ⟨.v (.bool (decide (a = b))), {}, True⟩ := rfl
theorem sStr_neq (a b : ByteArray) : sStr .neq a b = some ⟨.v (.bool (!decide (a = b))), {}, True⟩ := rfl
theorem sStr_add (a b : ByteArray) : sStr .add a b = some ⟨.v (.string (a ++ b)), {}, ((a.size + b.size : Nat) : Int) ≤ 9223372036854775807⟩ := rfl
def sbin1 (d : Option TypeDesc) (op : BinOp) (a b : Bool) : Option SO :=
  match d with
  | some .bool => sEqRes op (a == b) True
  | _ => none
theorem sBin_bool (op : BinOp) (t : TypeId) (a b : Bool) : sBin P op t (.v (.bool a)) (.v (.bool b)) = sbin1 (P.underlying t) op a b := rfl
theorem sbin1_bool (op : BinOp) (a b : Bool) : sbin1 (some .bool) op a b = sEqRes op (a == b) True := rfl
def sbin3 (d : Option TypeDesc) (r : Bool) (op : BinOp) : Option SO :=
  match d with
  | some (.pointer _) => sEqRes op r True
  | _ => none
def sbin4 (d : Option TypeDesc) (r : Bool) (op : BinOp) : Option SO :=
  match d with
  | some (.interface _) => sEqRes op r True
  | _ => none
theorem sbin3_ptr (e : TypeId) (r : Bool) (op : BinOp) : sbin3 (some (.pointer e)) r op = sEqRes op r True := rfl
theorem sbin4_ifc (ms : Array (String × TypeId)) (r : Bool) (op : BinOp) : sbin4 (some (.interface ms)) r op = sEqRes op r True := rfl
theorem sBin_pn (op : BinOp) (t : TypeId) (b e k : Nat) : sBin P op t (.ptr b e k) (.v (.pointer none)) = sbin3 (P.underlying t) false op := by
  simp only [sBin, nilEq, sbin3]
  cases P.underlying t with
  | none => rfl
  | some d => cases d <;> rfl
theorem sBin_nn (op : BinOp) (t : TypeId) : sBin P op t (.v (.pointer none)) (.v (.pointer none)) = sbin3 (P.underlying t) true op := by
  simp only [sBin, nilEq, sbin3]
  cases P.underlying t with
  | none => rfl
  | some d => cases d <;> rfl
theorem sBin_in (op : BinOp) (t u : TypeId) (x : SV) : sBin P op t (.ifc u x) (.v .nilIface) = sbin4 (P.underlying t) false op := by
  simp only [sBin, nilEq, sbin4]
  cases P.underlying t with
  | none => rfl
  | some d => cases d <;> rfl
theorem sop_copy {ev : Operand → SV} (x y : Operand) (t u : TypeId) : sop P N get ev (.call ⟨.builtin .copy, #[x, y], #[t, u]⟩) = sCopy P get t (ev x) (ev y) := rfl
def scopy1 (P : Program) (K : Option SK) (d : Option TypeDesc) (b e k n : Nat) (rows : List (List SV)) : Option SO :=
  match d, K with
    | some (.slice elem), some (.row B) => if tsz P elem = some 1 ∧ B.own = true then
        some ⟨.v (.int .i64 (Nat.min rows.length n : Nat)), { set := some (b, some (.row (B.upd e k ((rows.take (Nat.min rows.length n)).map fun r => cellAt r 0)))) }, e < B.n ∧ k + n ≤ B.size⟩ else none
    | _, _ => none
theorem sCopy_asl (t : TypeId) (b e k n : Nat) (rows : List (List SV)) : sCopy P get t (.asl b e k n) (.rsl 1 rows) = scopy1 P (get b) (P.underlying t) b e k n rows := rfl
def scopy2 (s : Option Nat) (z : Nat) (ty : TypeId) (el : Nat → List SV) (b e k n : Nat) (rows : List (List SV)) : Option SO :=
  if s = some 1 then some ⟨.v (.int .i64 (Nat.min rows.length n : Nat)), ⟨some (b, some (.row ⟨z, 1, true, ty, fun _ => splice (el 0) k ((rows.take (Nat.min rows.length n)).map fun r => cellAt r 0)⟩)), none⟩, e < 1 ∧ k + n ≤ z⟩ else none
theorem scopy1_row (z : Nat) (ty : TypeId) (el : Nat → List SV) (elem : TypeId) (b e k n : Nat) (rows : List (List SV)) : scopy1 P (some (.row ⟨z, 1, true, ty, el⟩)) (some (.slice elem)) b e k n rows = scopy2 (tsz P elem) z ty el b e k n rows := by
  simp [scopy1, scopy2, upd_one]
theorem scopy2_one (z : Nat) (ty : TypeId) (el : Nat → List SV) (b e k n : Nat) (rows : List (List SV)) : scopy2 (some 1) z ty el b e k n rows = some ⟨.v (.int .i64 (Nat.min rows.length n : Nat)), ⟨some (b, some (.row ⟨z, 1, true, ty, fun _ => splice (el 0) k ((rows.take (Nat.min rows.length n)).map fun r => cellAt r 0)⟩)), none⟩, e < 1 ∧ k + n ≤ z⟩ := by simp [scopy2]
def Cal (P : Program) (f : FuncId) : Prop := ∃ fn, P.funcs[f]? = some fn ∧ fn.body.isSome = true ∧ (fn.name == "runtime.NumGoroutine") = false
theorem SemOps.callq {op : Oper} {fo : Operand} {argos : Array Operand} {ats : Array TypeId} {f : FuncId} {x : SV} {k : Nat} {ac : List SV} (hcal : Cal P f) (hc : Pure P f ac x)
    (hop : op.op = .call ⟨.value fo, argos, ats⟩) (hg : op.guard = none) (hfv : seval s.env fo = .fn (.func f) [] [])
    (hargs : argos.toList.map (seval s.env) = ac) (hren : SV.flatL ac = true) (hx : x.flat = true)
    (hd : dstOk s op.dst) (next : swOps P Q (sw P Q k) all rest K (s.put op.dst x)) : SemOps P Q all (op :: rest) K s :=
  let ⟨_, h1, h2, h3⟩ := hcal
  SemOps.callp hop hg hfv h1 h2 h3 hc hargs (fun ρ => SV.flatL_ren ρ _ hren) (fun ρ => SV.flat_ren ρ _ hx) hd next
theorem OpSem.callq {op : Oper} {fo : Operand} {argos : Array Operand} {ats : Array TypeId} {f : FuncId} {x : SV} {N : St → Prop} {ac : List SV} (hcal : Cal P f) (hc : Pure P f ac x)
    (hop : op.op = .call ⟨.value fo, argos, ats⟩) (hfv : seval s.env fo = .fn (.func f) [] [])
    (hargs : argos.toList.map (seval s.env) = ac) (hren : SV.flatL ac = true) (hx : x.flat = true)
    (hd : dstOk s op.dst) (next : N (s.put op.dst x)) : OpSem P op N s :=
  let ⟨_, h1, h2, h3⟩ := hcal
  OpSem.callp hop hfv h1 h2 h3 hc hargs (fun ρ => SV.flatL_ren ρ _ hren) (fun ρ => SV.flat_ren ρ _ hx) hd next
end
end Go.SL
