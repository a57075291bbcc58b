/- Contracts of functions that the laws reach, on abstract values, and what they need: no conditions but those that each theorem states. -/
import Derived.Test.YtheodenjjaoncaaSlG
set_option linter.unusedVariables false
set_option linter.unusedSimpArgs false
set_option linter.defProp false
namespace Go.SL
open Go
set_option linter.unusedVariables false
set_option linter.unusedSimpArgs false
structure St where
  sz : Nat
  base : Nat
  env : List (Nat × SV)
  L : List (Option SK)
inductive SX where
  | normal
  | exit (id : Nat)
  | goto (l : Nat)
  | ret
  | panic (x : SV)
inductive It where
  | code (c : Code)
  | blk (id : Nat)
  | inv (J : St → Prop)
structure Org where
  w : World
  β : Bt
  L : List (Option SK)
  defs : List Deferred := []
structure RR (o : Org) (β : Bt) (s : St) (a : Act) (w : World) : Prop where
  size : a.tmps.size = s.sz
  env : ∀ n, RelV β (lookup s.env n) (a.tmps.getD n undef)
  heap : RelH w β s.L
  keep : Keep o.w o.β o.L w β s.L
  base : s.base = o.L.length
  blen : s.base ≤ s.L.length
  same : ∀ i, i < s.base → β i = o.β i
  defers : a.defers = o.defs
def SX.rel (β : Bt) : SX → Exit → Prop
  | .normal, e => e = .normal
  | .exit id, e => e = .exit id
  | .goto l, e => e = .goto l
  | .ret, e => e = .ret
  | .panic x, e => ∃ v, e = .panic [{ v, recovered := false }] ∧ RelV β x v
def LQ (o : Org) (Q : SX → St → Prop) (e : Exit) (a : Act) (w : World) : Prop := ∃ β s x, SX.rel β x e ∧ Q x s ∧ RR o β s a w
def KQ (P : Program) (o : Org) (Q : SX → St → Prop) : List It → Exit → Act → World → Prop
  | [] => LQ o Q
  | .code c :: K => Exit.then (fun a w => c.wp P (KQ P o Q K) a w) (KQ P o Q K)
  | .blk id :: K => Exit.inBlock id (KQ P o Q K)
  | .inv J :: K => Exit.then (fun a w => ∃ β s, J s ∧ RR o β s a w) (KQ P o Q K)
def Sem (P : Program) (Q : SX → St → Prop) (K : List It) (s : St) : Prop := ∀ o β a w, RR o β s a w → KQ P o Q K .normal a w
def SemOps (P : Program) (Q : SX → St → Prop) (all l : List Oper) (K : List It) (s : St) : Prop := ∀ o β a w, RR o β s a w → wpList P all.toArray (KQ P o Q K) l a w
def sExit (id : Nat) : List It → Option (List It)
  | .blk i :: K => if i = id then some K else sExit id K
  | _ :: K => sExit id K
  | [] => none
def St.put (s : St) (dst : Option Tmp) (x : SV) : St :=
  match dst with
  | some d => { s with env := (d, x) :: s.env }
  | none => s
def St.step (s : St) (dst : Option Tmp) (r : SO) : St := { s.put dst r.val with L := r.chg.apply s.L }
def dstOk (s : St) (dst : Option Tmp) : Prop := ∀ d, dst = some d → d < s.sz
def dstB (n : Nat) : Option Tmp → Bool
  | none => true
  | some d => Nat.ble (d + 1) n
theorem dK {s : St} {d : Option Tmp} (h : dstB s.sz d = true) : dstOk s d := fun e he => by
  subst he
  exact Nat.le_of_ble_eq_true h
structure Hide {α : Type} (k : α → Prop) (e : Prop) : Type where
structure Hide2 (A B : Prop) : Type where
def obind {α : Type} (m : Option α) (k : α → Prop) (e : Prop) (_ : Hide k e) : Prop :=
  match m with
  | some r => k r
  | none => e
theorem obind_some {α : Type} (r : α) (k : α → Prop) (e : Prop) (h : Hide k e) : obind (some r) k e h = k r := rfl
theorem obind_none {α : Type} (k : α → Prop) (e : Prop) (h : Hide k e) : obind none k e h = e := rfl
def SIf (b : Bool) (A B : Prop) (_ : Hide2 A B) : Prop := if b = true then A else B
theorem SIf_true (A B : Prop) (h : Hide2 A B) : SIf true A B h = A := by simp [SIf]
theorem SIf_false (A B : Prop) (h : Hide2 A B) : SIf false A B h = B := by simp [SIf]
def SCond (P : Program) (Q : SX → St → Prop) (f : List It → St → Prop) (b : Bool) (x y : Code) (K : List It) (s : St) : Prop := if b = true then f (.code x :: K) s else f (.code y :: K) s
def sWant (ops : List Oper) (env : List (Nat × SV)) (o : Oper) : Option Bool :=
  match o.guard with
  | none => some true
  | some (j, want) => match (ops[j]?).bind (·.dst) with
    | some d => match lookup env d with
      | .v (.bool x) => some (x == want)
      | .v (.tuple _) => some false
      | _ => none
    | none => none
def swOps (P : Program) (Q : SX → St → Prop) (f : List It → St → Prop) (all : List Oper) : List Oper → List It → St → Prop
  | [], K, s => f K s
  | o :: rest, K, s => obind (sWant all s.env o) (fun b => SIf b
      (obind (sop P s.L.length (getL s.L) (seval s.env) o.op) (fun r => dstOk s o.dst ∧ r.ob ∧ swOps P Q f all rest K (s.step o.dst r)) (SemOps P Q all ({ o with guard := none } :: rest) K s) ⟨⟩)
      (dstOk s o.dst ∧ swOps P Q f all rest K (s.put o.dst (.v undef))) ⟨⟩) False ⟨⟩
def sw (P : Program) (Q : SX → St → Prop) : Nat → List It → St → Prop
  | 0, K, s => Sem P Q K s
  | _ + 1, [], s => Q .normal s
  | k + 1, .blk _ :: K, s => sw P Q k K s
  | _ + 1, .inv J :: _, s => J s
  | k + 1, .code c :: K, s => match c with
    | .skip => sw P Q k K s
    | .label _ => sw P Q k K s
    | .seq a b => sw P Q k (.code a :: .code b :: K) s
    | .cond c a b => match seval s.env c with
      | .v (.bool x) => SCond P Q (sw P Q k) x a b K s
      | _ => False
    | .block id b => sw P Q k (.code b :: .blk id :: K) s
    | .exit id => match sExit id K with
      | some K' => sw P Q k K' s
      | none => Q (.exit id) s
    | .ret => Q .ret s
    | .region id ops false => swOps P Q (sw P Q k) ops.toList ops.toList K s
    | c => Sem P Q (.code c :: K) s
section
variable {P : Program} {Q : SX → St → Prop} {o : Org} {β : Bt} {s : St} {a : Act} {w : World}
theorem eval_rel (h : RR o β s a w) (x : Operand) : RelV β (seval s.env x) (a.eval x) := by
  cases x with
  | tmp t => exact h.env t
  | const v => rfl
  | global g => rfl
  | func f => exact ⟨#[], #[], rfl, rfl, rfl⟩
theorem put_env {env : List (Nat × SV)} {tmps : Array Value} {d : Nat} {x : SV} {y : Value} (hd : d < tmps.size) (h : ∀ n, RelV β (lookup env n) (tmps.getD n undef)) (hx : RelV β x y) : ∀ n, RelV β (lookup ((d, x) :: env) n) ((tmps.setIfInBounds d y).getD n undef) := by
  intro n
  unfold lookup
  split
  · rename_i e
    subst e
    simp [hd]
    exact hx
  · rename_i e
    have := h n
    simp only [Array.getD_eq_getD_getElem?] at this ⊢
    rw [Array.getElem?_setIfInBounds_ne e]
    exact this
theorem RR.put (h : RR o β s a w) {dst : Option Tmp} (hd : dstOk s dst) {x : SV} {y : Value} (hx : RelV β x y) : RR o β (s.put dst x) (a.put dst y) w := by
  cases dst with
  | none => exact h
  | some d =>
    exact ⟨by simpa [Act.put, St.put] using h.size, put_env (by rw [h.size]; exact hd d rfl) h.env hx, h.heap, h.keep, h.base, h.blen, h.same, h.defers⟩
theorem apply_length (c : Chg) (L : List (Option SK)) : L.length ≤ (c.apply L).length := by
  unfold Chg.apply
  rw [List.length_append]
  cases c.set <;> simp
theorem RR.step (h : RR o β s a w) {dst : Option Tmp} (hd : dstOk s dst) {r : SO} {y : Value} {w' : World} {β' : Bt} (hx : RelV β' r.val y) (hout : Out w β s.L.length (getL s.L) r.chg w' β') : RR o β' (s.step dst r) (a.put dst y) w' := by
  obtain ⟨h1, h2⟩ := hout.all h.heap
  have henv : ∀ n, RelV β' (lookup s.env n) (a.tmps.getD n undef) := fun n => (h.env n).mono hout.le
  have hbase : (s.step dst r).base = s.base := by unfold St.step St.put; cases dst <;> rfl
  have hL : (s.step dst r).L = r.chg.apply s.L := rfl
  refine ⟨?_, ?_, by rw [hL]; exact h1, by rw [hL]; exact h.keep.trans h2, by rw [hbase]; exact h.base, by rw [hbase, hL]; exact Nat.le_trans h.blen (apply_length _ _), fun i hi => ?_, ?_⟩
  · cases dst with
    | none => exact h.size
    | some d => simpa [Act.put, St.step, St.put] using h.size
  · cases dst with
    | none => exact henv
    | some d => exact put_env (by rw [h.size]; exact hd d rfl) henv hx
  · rw [hbase] at hi
    rw [← h.same i hi]
    cases hb : β i with
    | some p => exact hout.le.b i p hb
    | none => exact hout.out i hb fun e => absurd e (by have := h.blen; omega)
  · cases dst <;> exact h.defers
theorem loc_of (h : RR o β s a w) : Loc w β s.L.length (getL s.L) :=
  ⟨fun i K hi => let ⟨p, hp, rk⟩ := h.heap.blk i K (getL_some.1 hi); ⟨p, hp, rk, h.heap.lt i K p (getL_some.1 hi) hp⟩, h.heap.out _ (Nat.le_refl _), fun b o v hv => ⟨(h.heap.ro b o v hv).1, (h.heap.ro b o v hv).2.1⟩⟩
theorem sWant_wanted {o' : Org} (hr : RR o' β s a w) {ops : List Oper} {o : Oper} {b : Bool} (h : sWant ops s.env o = some b) : Region.wanted o (yielded ops.toArray a.tmps) = b := by
  unfold sWant at h
  split at h
  · rename_i hg
    cases h
    simp [Region.wanted, hg]
  · rename_i j want hg
    split at h
    · rename_i d hd
      split at h
      · rename_i x hx
        cases h
        have hv := hr.env d
        rw [hx] at hv
        obtain hv : a.tmps.getD d undef = .bool x := hv
        have hy : yielded ops.toArray a.tmps j = some x := by
          unfold yielded
          have e1 : (ops.toArray[j]?).bind (·.dst) = some d := by simpa using hd
          rw [e1]
          rw [Array.getD_eq_getD_getElem?] at hv
          cases h2 : a.tmps[d]? with
          | none => rw [h2] at hv; simp [undef] at hv
          | some v => rw [h2] at hv; simp at hv; simp [h2, hv]
        simp [Region.wanted, hg, hy]
      · rename_i x hx
        cases h
        have hv := hr.env d
        rw [hx] at hv
        obtain hv : a.tmps.getD d undef = .tuple x := hv
        have hy : yielded ops.toArray a.tmps j = none := by
          unfold yielded
          have e1 : (ops.toArray[j]?).bind (·.dst) = some d := by simpa using hd
          rw [e1]
          rw [Array.getD_eq_getD_getElem?] at hv
          cases h2 : a.tmps[d]? with
          | none => simp [h2]
          | some v => rw [h2] at hv; simp at hv; simp [h2, hv]
        simp [Region.wanted, hg, hy]
      · cases h
    · cases h
theorem ops_sound {f : List It → St → Prop} (all : List Oper) (hf : ∀ K s, f K s → Sem P Q K s) : ∀ (l : List Oper) (K : List It) (s : St), swOps P Q f all l K s → SemOps P Q all l K s
  | [], K, s, h => fun o β a w hr => by
    unfold swOps at h
    exact hf K s h o β a w hr
  | op :: rest, K, s, h => fun o β a w hr => by
    unfold swOps at h
    have ih := ops_sound all hf rest K
    cases hw : sWant all s.env op with
    | none => rw [hw] at h; exact h.elim
    | some b =>
      rw [hw, obind_some] at h
      have hwd := sWant_wanted hr hw
      cases b with
      | false =>
        rw [SIf_false] at h
        unfold wpList
        rw [if_neg (by rw [hwd]; simp)]
        exact ih _ h.2 o β _ w (hr.put h.1 rfl)
      | true =>
        rw [SIf_true] at h
        unfold wpList
        rw [if_pos hwd]
        cases hs : sop P s.L.length (getL s.L) (seval s.env) op.op with
        | some r =>
          rw [hs, obind_some] at h
          obtain ⟨hd, ho, hn⟩ := h
          obtain ⟨dst, opp, ty, pos, af, g⟩ := op
          obtain ⟨nx, y, w', β', hrun, hnx, hy, hout, _⟩ := sop_does (dst := dst) (ty := ty) (pos := pos) (af := af) (g := g) (P := P) (ρ := a.eval) (loc_of hr) (fun x => eval_rel hr x) hs ho
          have hr' := hr.step hd hy hout
          left
          unfold Oper.wp
          rw [hrun]
          rcases hnx with rfl | ⟨rfl, rfl⟩
          · exact ih _ hn o β' _ w' hr'
          · exact ih _ hn o β' _ w' hr'
        | none =>
          rw [hs, obind_none] at h
          have := h o β a w hr
          unfold wpList at this
          rw [if_pos (by simp [Region.wanted])] at this
          exact this
theorem exit_KQ {id : Nat} : ∀ (K : List It) (K' : List It), sExit id K = some K' → ∀ a w, KQ P o Q K' .normal a w → KQ P o Q K (.exit id) a w
  | [], K', h, a, w, hk => by simp [sExit] at h
  | .blk i :: K, K', h, a, w, hk => by
    unfold sExit at h
    simp only [KQ, Exit.inBlock]
    split at h
    · rename_i e; cases h; rw [if_pos e.symm]; exact hk
    · rename_i e; rw [if_neg (fun h => e h.symm)]; exact exit_KQ K K' h a w hk
  | .code c :: K, K', h, a, w, hk => exit_KQ K K' h a w hk
  | .inv J :: K, K', h, a, w, hk => exit_KQ K K' h a w hk
theorem exit_out {id : Nat} : ∀ (K : List It), sExit id K = none → ∀ a w, LQ o Q (.exit id) a w → KQ P o Q K (.exit id) a w
  | [], h, a, w, hk => hk
  | .blk i :: K, h, a, w, hk => by
    unfold sExit at h
    simp only [KQ, Exit.inBlock]
    split at h
    · cases h
    · rename_i e; rw [if_neg (fun h => e h.symm)]; exact exit_out K h a w hk
  | .code c :: K, h, a, w, hk => exit_out K h a w hk
  | .inv J :: K, h, a, w, hk => exit_out K h a w hk
theorem ret_KQ : ∀ (K : List It) a w, LQ o Q .ret a w → KQ P o Q K .ret a w
  | [], a, w, hk => hk
  | .blk i :: K, a, w, hk => ret_KQ K a w hk
  | .code c :: K, a, w, hk => ret_KQ K a w hk
  | .inv J :: K, a, w, hk => ret_KQ K a w hk
theorem panic_KQ {ch : List PanicEntry} : ∀ (K : List It) a w, LQ o Q (.panic ch) a w → KQ P o Q K (.panic ch) a w
  | [], a, w, hk => hk
  | .blk i :: K, a, w, hk => panic_KQ K a w hk
  | .code c :: K, a, w, hk => panic_KQ K a w hk
  | .inv J :: K, a, w, hk => panic_KQ K a w hk
theorem sw_sound : ∀ (k : Nat) (K : List It) (s : St), sw P Q k K s → Sem P Q K s
  | 0, K, s, h => h
  | k + 1, [], s, h => fun o β a w hr => ⟨β, s, .normal, rfl, h, hr⟩
  | k + 1, .blk _ :: K, s, h => fun o β a w hr => sw_sound k K s h o β a w hr
  | k + 1, .inv J :: K, s, h => fun o β a w hr => ⟨β, s, h, hr⟩
  | k + 1, .code c :: K, s, h => fun o β a w hr => by
    have ih := sw_sound k
    show c.wp P (KQ P o Q K) a w
    unfold sw at h
    split at h
    · exact wp_skip (ih K s h o β a w hr)
    · exact wp_label (ih K s h o β a w hr)
    · exact wp_seq (ih _ s h o β a w hr)
    · rename_i c x y
      split at h
      · rename_i b hb
        have hv := eval_rel hr c
        rw [hb] at hv
        unfold SCond at h
        refine wp_cond_split hv (fun e => ?_) (fun e => ?_)
        · rw [if_pos e] at h
          exact ih _ s h o β a w hr
        · rw [if_neg (by simp [e])] at h
          exact ih _ s h o β a w hr
      · exact h.elim
    · exact wp_block (ih _ s h o β a w hr)
    · rename_i id
      split at h
      · rename_i K' hk
        exact wp_exit (exit_KQ K K' hk a w (ih K' s h o β a w hr))
      · rename_i hk
        exact wp_exit (exit_out K hk a w ⟨β, s, .exit id, rfl, h, hr⟩)
    · exact wp_ret (ret_KQ K a w ⟨β, s, .ret, rfl, h, hr⟩)
    · rename_i id ops
      refine wp_region_list ?_
      have := ops_sound ops.toList (fun K s => ih K s) _ _ _ h o β a w hr
      simpa using this
    · exact h o β a w hr
end
end Go.SL
