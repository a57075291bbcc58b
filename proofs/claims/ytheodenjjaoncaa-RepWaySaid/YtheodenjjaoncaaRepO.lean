/- Tables of six by six; the rounds of rep: what is linked, who reaches whom. -/
import Derived.Test.YtheodenjjaoncaaRepN
import Derived.Test.YtheodenjjaoncaaNoteB
import Derived.Test.YtheodenjjaoncaaSlW
set_option linter.unusedVariables false
set_option linter.unusedSimpArgs false
namespace Go.SL
open Go Go.Proofs
def mcells (M : Nat → Nat → Bool) : List SV := (List.range 36).map fun x => .v (.bool (M (x / 6) (x % 6)))
theorem mcells_len (M : Nat → Nat → Bool) : (mcells M).length = 36 := by simp [mcells]
theorem mcells_get (M : Nat → Nat → Bool) (i j : Nat) (hi : i < 6) (hj : j < 6) : (mcells M)[i * 6 + j]? = some (.v (.bool (M i j))) := by
  rw [mcells, List.getElem?_map, List.getElem?_range (by omega), Option.map_some, show (i * 6 + j) / 6 = i by omega, show (i * 6 + j) % 6 = j by omega]
theorem mcells_at (M : Nat → Nat → Bool) (i j : Nat) (hi : i < 6) (hj : j < 6) : cellAt (mcells M) (i * 6 + j) = .v (.bool (M i j)) := cellAt_get _ _ _ (mcells_get M i j hi hj)
def setM (M : Nat → Nat → Bool) (i j : Nat) (v : Bool) (x y : Nat) : Bool := if x = i ∧ y = j then v else M x y
theorem mcells_ext {M M' : Nat → Nat → Bool} (h : ∀ x y, x < 6 → y < 6 → M x y = M' x y) : mcells M = mcells M' := by
  unfold mcells
  refine List.map_congr_left fun x hx => ?_
  have := List.mem_range.1 hx
  rw [h (x / 6) (x % 6) (by omega) (by omega)]
theorem mcells_set (M : Nat → Nat → Bool) (i j : Nat) (v : Bool) (hi : i < 6) (hj : j < 6) : splice (mcells M) (i * 6 + j) [.v (.bool v)] = mcells (setM M i j v) := by
  apply List.ext_getElem?
  intro k
  rw [splice_get _ _ _ (by rw [mcells_len]; show i * 6 + j + 1 ≤ 36; omega)]
  by_cases hk : k < 36
  · have e : k = k / 6 * 6 + k % 6 := by omega
    have h2 := mcells_get (setM M i j v) (k / 6) (k % 6) (by omega) (by omega)
    have h3 := mcells_get M (k / 6) (k % 6) (by omega) (by omega)
    rw [← e] at h2 h3
    rw [h2]
    split
    · rename_i h
      have h : i * 6 + j ≤ k ∧ k < i * 6 + j + 1 := h
      have e1 : k / 6 = i := by omega
      have e2 : k % 6 = j := by omega
      rw [show k - (i * 6 + j) = 0 by omega]
      simp [setM, e1, e2]
    · rename_i h
      rw [h3]
      have h : ¬ (i * 6 + j ≤ k ∧ k < i * 6 + j + 1) := h
      have : ¬ (k / 6 = i ∧ k % 6 = j) := by omega
      simp [setM, this]
  · rw [if_neg (by show ¬ (i * 6 + j ≤ k ∧ k < i * 6 + j + 1); omega), List.getElem?_eq_none (by rw [mcells_len]; omega), List.getElem?_eq_none (by rw [mcells_len]; omega)]
theorem mcells_flat (M : Nat → Nat → Bool) : SV.flatL (mcells M) = true := flatL_of _ fun y hy => by
  obtain ⟨x, _, rfl⟩ := List.mem_map.1 hy
  rfl
theorem mcells_one (M : Nat → Nat → Bool) : (mcells M).all SV.one = true := by simp [mcells, SV.one, Value.oneCell']
theorem mcells_all (M : Nat → Nat → Bool) : spart true (mcells M) 0 36 = .agg (mcells M) := by
  rw [spart_agg, List.drop_zero, List.take_of_length_le (by rw [mcells_len]; exact Nat.le_refl _)]
theorem spart_two (a b : SV) : spart true [a, b] 0 2 = .agg [a, b] := rfl
theorem spart_three (a b c : SV) : spart true [a, b, c] 0 3 = .agg [a, b, c] := rfl
def lkrow (p : Int × Int) : List SV := [.v (.int .i64 p.1), .v (.int .i64 p.2)]
def lkrows (ls : List (Int × Int)) : List (List SV) := ls.map lkrow
theorem lkrows_length (ws : List (Int × Int)) : (lkrows ws).length = ws.length := by simp [lkrows]
theorem lkrows_flat (ws : List (Int × Int)) : SV.flatR (lkrows ws) = true := flatR_map _ _ fun t => rfl
theorem lkrows_at (ws : List (Int × Int)) (k : Nat) (h : k < ws.length) : (lkrows ws).getD k [] = lkrow (ws.getD k (0, 0)) := by
  simp [lkrows, List.getD_eq_getElem?_getD, List.getElem?_eq_getElem h]
theorem lkrow_eq (w : Int × Int) : lkrow w = [.v (.int .i64 w.1), .v (.int .i64 w.2)] := rfl
def idrows (ids : List I16) : List (List SV) := ids.map I16.c
theorem idrows_length (ids : List I16) : (idrows ids).length = ids.length := by simp [idrows]
theorem idrows_flat (ids : List I16) : SV.flatR (idrows ids) = true := flatR_map _ _ I16.flat
theorem idrows_at (ids : List I16) (k : Nat) (h : k < ids.length) : (idrows ids).getD k [] = (idD ids k).c := by
  simp [idrows, idD, List.getD_eq_getElem?_getD, List.getElem?_eq_getElem h]
/-- What each heard, by content. -/
def hhrow (f : Nat → List Hd) (e : Nat) : List SV := [.rsl 18 (hrows (f e))]
theorem hhrow_len (f : Nat → List Hd) (e : Nat) : (hhrow f e).length = 1 := Eq.trans rfl rfl
theorem hhrow_cell (f : Nat → List Hd) (e : Nat) : cellAt (hhrow f e) 0 = .rsl 18 (hrows (f e)) := Eq.trans rfl rfl
theorem hhrow_flat (f : Nat → List Hd) (e : Nat) : SV.flatL (hhrow f e) = true := by simp only [hhrow, flatL_cons, flatL_nil, flat_rsl, hrows.flat, Bool.and_self]
def hhrows (hh : List (List Hd)) : List (List SV) := hh.map fun hs => [.rsl 18 (hrows hs)]
theorem hhrows_length (hh : List (List Hd)) : (hhrows hh).length = hh.length := by simp [hhrows]
theorem hhrows_flat (hh : List (List Hd)) : SV.flatR (hhrows hh) = true := flatR_map _ _ fun t => by simp only [flatL_cons, flatL_nil, flat_rsl, hrows.flat, Bool.and_self]
theorem hhrows_at (hh : List (List Hd)) (k : Nat) (h : k < hh.length) : (hhrows hh).getD k [] = hhrow (fun k => hh.getD k []) k := by
  simp [hhrows, hhrow, List.getD_eq_getElem?_getD, List.getElem?_eq_getElem h]
def diagM (k x y : Nat) : Bool := x == y && decide (x < k)
theorem diag_zero : mcells (diagM 0) = mcells fun _ _ => false := mcells_ext fun x y _ _ => by simp [diagM]
theorem diag_step (k : Nat) : mcells (setM (diagM k) k k true) = mcells (diagM (k + 1)) := mcells_ext fun x y _ _ => by
  unfold setM diagM
  by_cases h : x = k ∧ y = k
  · rw [if_pos h]; simp [h.1, h.2]
  · rw [if_neg h]
    by_cases e : x = y
    · subst e
      simp only [beq_self_eq_true, Bool.true_and, decide_eq_decide]
      omega
    · have : (x == y) = false := by simpa using e
      rw [this]; rfl
/-- What is reached at once. -/
def nearM (n : Nat) (L : Nat → Nat → Bool) (x y : Nat) : Bool := diagM n x y || L x y
theorem near_nil (n : Nat) : mcells (nearM n (lnk n [])) = mcells (diagM n) := mcells_ext fun x y _ _ => by simp [nearM, lnk]
theorem lnk_nil (n : Nat) : mcells (lnk n []) = mcells fun _ _ => false := mcells_ext fun x y _ _ => by simp [lnk]
theorem lnk_take (n : Nat) (ls : List (Int × Int)) (k x y : Nat) (h : k < ls.length) : lnk n (ls.take (k + 1)) x y = (lnk n (ls.take k) x y || (linkOk n (ls.getD k (0, 0)) && linkAt (ls.getD k (0, 0)) x y)) := by
  rw [lnk, List.take_add_one, List.getElem?_eq_getElem h, Option.toList_some, List.any_append, List.getD_eq_getElem?_getD, List.getElem?_eq_getElem h]
  simp [lnk]
theorem lnk_set (n : Nat) (ls : List (Int × Int)) (k a b : Nat) (h : k < ls.length) (hp : ls.getD k (0, 0) = ((a : Int), (b : Int))) (hok : linkOk n ((a : Int), (b : Int)) = true) : mcells (setM (setM (lnk n (ls.take k)) a b true) b a true) = mcells (lnk n (ls.take (k + 1))) := mcells_ext fun x y _ _ => by
  rw [lnk_take n ls k x y h, hp, hok, Bool.true_and]
  unfold setM linkAt
  by_cases h1 : x = b ∧ y = a
  · rw [if_pos h1]; simp [h1.1, h1.2]
  · rw [if_neg h1]
    by_cases h2 : x = a ∧ y = b
    · rw [if_pos h2]; simp [h2.1, h2.2]
    · rw [if_neg h2]
      have e1 : (decide ((a : Int) = (x : Int)) && decide ((b : Int) = (y : Int))) = false := by
        rw [Bool.eq_false_iff]; intro h3; simp only [Bool.and_eq_true, decide_eq_true_eq] at h3; omega
      have e2 : (decide ((a : Int) = (y : Int)) && decide ((b : Int) = (x : Int))) = false := by
        rw [Bool.eq_false_iff]; intro h3; simp only [Bool.and_eq_true, decide_eq_true_eq] at h3; omega
      rw [e1, e2]; simp
theorem near_set (n : Nat) (ls : List (Int × Int)) (k a b : Nat) (h : k < ls.length) (hp : ls.getD k (0, 0) = ((a : Int), (b : Int))) (hok : linkOk n ((a : Int), (b : Int)) = true) : mcells (setM (setM (nearM n (lnk n (ls.take k))) a b true) b a true) = mcells (nearM n (lnk n (ls.take (k + 1)))) := mcells_ext fun x y _ _ => by
  unfold nearM
  rw [lnk_take n ls k x y h, hp, hok, Bool.true_and]
  unfold setM linkAt
  by_cases h1 : x = b ∧ y = a
  · rw [if_pos h1]; simp [h1.1, h1.2]
  · rw [if_neg h1]
    by_cases h2 : x = a ∧ y = b
    · rw [if_pos h2]; simp [h2.1, h2.2]
    · rw [if_neg h2]
      have e1 : (decide ((a : Int) = (x : Int)) && decide ((b : Int) = (y : Int))) = false := by
        rw [Bool.eq_false_iff]; intro h3; simp only [Bool.and_eq_true, decide_eq_true_eq] at h3; omega
      have e2 : (decide ((a : Int) = (y : Int)) && decide ((b : Int) = (x : Int))) = false := by
        rw [Bool.eq_false_iff]; intro h3; simp only [Bool.and_eq_true, decide_eq_true_eq] at h3; omega
      rw [e1, e2]; simp
theorem lnk_skip (n : Nat) (ls : List (Int × Int)) (k : Nat) (h : k < ls.length) (hok : linkOk n (ls.getD k (0, 0)) = false) : lnk n (ls.take (k + 1)) = lnk n (ls.take k) := by
  funext x y
  rw [lnk_take n ls k x y h, hok, Bool.false_and, Bool.or_false]
/-- The closure under way: rows ahead of a, and of row a the places ahead of b, are done. -/
def warsAt (n : Nat) (lk : Nat → Nat → Bool) (m a b x y : Nat) : Bool := if x < a ∨ (x = a ∧ y < b) then wars n lk (m + 1) x y else wars n lk m x y
theorem wars_row (n : Nat) (lk : Nat → Nat → Bool) (m x : Nat) : wars n lk (m + 1) x m = wars n lk m x m := by
  simp only [wars]
  cases wars n lk m x m <;> simp
theorem wars_col (n : Nat) (lk : Nat → Nat → Bool) (m y : Nat) : wars n lk (m + 1) m y = wars n lk m m y := by
  simp only [wars]
  cases wars n lk m m y <;> simp
theorem warsAt_row (n : Nat) (lk : Nat → Nat → Bool) (m a b x : Nat) : warsAt n lk m a b x m = wars n lk m x m := by
  unfold warsAt; split <;> simp [wars_row]
theorem warsAt_col (n : Nat) (lk : Nat → Nat → Bool) (m a b y : Nat) : warsAt n lk m a b m y = wars n lk m m y := by
  unfold warsAt; split <;> simp [wars_col]
theorem warsAt_here (n : Nat) (lk : Nat → Nat → Bool) (m a b : Nat) : warsAt n lk m a b a b = wars n lk m a b := by
  unfold warsAt; rw [if_neg (by omega)]
theorem warsAt_step (n : Nat) (lk : Nat → Nat → Bool) (m a b : Nat) : mcells (setM (warsAt n lk m a b) a b (wars n lk (m + 1) a b)) = mcells (warsAt n lk m a (b + 1)) := mcells_ext fun x y _ _ => by
  unfold setM warsAt
  by_cases h : x = a ∧ y = b
  · rw [if_pos h, if_pos (by omega), h.1, h.2]
  · rw [if_neg h]
    by_cases h2 : x < a ∨ (x = a ∧ y < b)
    · rw [if_pos h2, if_pos (by omega)]
    · rw [if_neg h2, if_neg (by omega)]
theorem wars_out (n : Nat) (lk : Nat → Nat → Bool) (hr : ∀ a b, lk a b = true → a < n ∧ b < n) : ∀ (m x y : Nat), n ≤ x ∨ n ≤ y → wars n lk m x y = false
  | 0, x, y, h => by
    unfold wars
    cases h1 : lk x y with
    | true => have := hr _ _ h1; omega
    | false =>
      rw [Bool.or_false, Bool.eq_false_iff]
      intro h2
      simp only [Bool.and_eq_true, beq_iff_eq, decide_eq_true_eq] at h2
      omega
  | m + 1, x, y, h => by
    unfold wars
    rw [wars_out n lk hr m x y h, Bool.false_or]
    rcases h with h | h
    · rw [wars_out n lk hr m x m (.inl h), Bool.false_and]
    · rw [wars_out n lk hr m m y (.inr h), Bool.and_false]
theorem warsAt_row_end (n : Nat) (lk : Nat → Nat → Bool) (hr : ∀ a b, lk a b = true → a < n ∧ b < n) (m a : Nat) : mcells (warsAt n lk m a n) = mcells (warsAt n lk m (a + 1) 0) := mcells_ext fun x y _ _ => by
  unfold warsAt
  by_cases h : x < a + 1
  · rw [if_pos (show x < a + 1 ∨ (x = a + 1 ∧ y < 0) from .inl h)]
    split
    · rfl
    · rename_i h2
      rw [wars_out n lk hr m x y (.inr (by omega)), wars_out n lk hr (m + 1) x y (.inr (by omega))]
  · rw [if_neg (by omega), if_neg (by omega)]
theorem warsAt_begin (n : Nat) (lk : Nat → Nat → Bool) (m : Nat) : mcells (warsAt n lk m 0 0) = mcells (wars n lk m) := mcells_ext fun x y _ _ => by
  unfold warsAt; rw [if_neg (by omega)]
theorem warsAt_end (n : Nat) (lk : Nat → Nat → Bool) (hr : ∀ a b, lk a b = true → a < n ∧ b < n) (m : Nat) : mcells (warsAt n lk m n 0) = mcells (wars n lk (m + 1)) := mcells_ext fun x y _ _ => by
  unfold warsAt
  by_cases h : x < n
  · rw [if_pos (.inl h)]
  · rw [if_neg (by omega), wars_out n lk hr m x y (.inl (by omega)), wars_out n lk hr (m + 1) x y (.inl (by omega))]
theorem near_wars (n : Nat) (lk : Nat → Nat → Bool) : nearM n lk = wars n lk 0 := by
  funext x y; rfl
section
variable (n : Nat) (lk : Nat → Nat → Bool) (ids : List I16) (hh : List (List Hd))
def h0F (a e : Nat) : List Hd := if e < a then heardT n lk ids hh 0 e else []
def h0G (a : Nat) (hs : List Hd) (e : Nat) : List Hd := if e = a then hs else h0F n lk ids hh a e
def hR (r a e : Nat) : List Hd := if e < a then heardT n lk ids hh (r + 1) e else heardT n lk ids hh r e
def hRG (r a : Nat) (hs : List Hd) (e : Nat) : List Hd := if e = a then hs else hR n lk ids hh r a e
def bF (r a e : Nat) : Hd := if e < a then bestT n lk ids hh (r + 1) e else bestT n lk ids hh r e
variable {n lk ids hh}
theorem h0F_zero (e : Nat) : h0F n lk ids hh 0 e = [] := by simp [h0F]
theorem h0G_start (a : Nat) : h0G n lk ids hh a [] = h0F n lk ids hh a := by
  funext e; unfold h0G h0F; split
  · rename_i h; subst h; simp
  · rfl
theorem h0G_end (a : Nat) : h0G n lk ids hh a (heardT n lk ids hh 0 a) = h0F n lk ids hh (a + 1) := by
  funext e; unfold h0G h0F; split
  · rename_i h; subst h; simp
  · rename_i h
    by_cases h2 : e < a
    · rw [if_pos h2, if_pos (by omega)]
    · rw [if_neg h2, if_neg (by omega)]
theorem h0F_skip (a : Nat) (h : heardT n lk ids hh 0 a = []) : h0F n lk ids hh (a + 1) = h0F n lk ids hh a := by rw [← h0G_end, h, h0G_start]
theorem h0F_end (e a : Nat) (h : e < a) : h0F n lk ids hh a e = heardT n lk ids hh 0 e := if_pos h
theorem h0G_other (a : Nat) (hs hs' : List Hd) (e : Nat) (h : e ≠ a) : h0G n lk ids hh a hs e = h0G n lk ids hh a hs' e := by unfold h0G; rw [if_neg h, if_neg h]
theorem h0G_self (a : Nat) (hs : List Hd) : h0G n lk ids hh a hs a = hs := if_pos rfl
theorem hR_zero (r : Nat) : hR n lk ids hh r 0 = heardT n lk ids hh r := by funext e; simp [hR]
theorem hR_end (r e a : Nat) (h : e < a) : hR n lk ids hh r a e = heardT n lk ids hh (r + 1) e := if_pos h
theorem hRG_start (r a : Nat) : hRG n lk ids hh r a (heardT n lk ids hh r a) = hR n lk ids hh r a := by
  funext e; unfold hRG hR; split
  · rename_i h; subst h; simp
  · rfl
theorem hRG_end (r a : Nat) : hRG n lk ids hh r a (heardT n lk ids hh (r + 1) a) = hR n lk ids hh r (a + 1) := by
  funext e; unfold hRG hR; split
  · rename_i h; subst h; simp
  · rename_i h
    by_cases h2 : e < a
    · rw [if_pos h2, if_pos (by omega)]
    · rw [if_neg h2, if_neg (by omega)]
theorem hRG_other (r a : Nat) (hs hs' : List Hd) (e : Nat) (h : e ≠ a) : hRG n lk ids hh r a hs e = hRG n lk ids hh r a hs' e := by unfold hRG; rw [if_neg h, if_neg h]
theorem hRG_self (r a : Nat) (hs : List Hd) : hRG n lk ids hh r a hs a = hs := if_pos rfl
theorem bF_zero (r : Nat) : bF n lk ids hh r 0 = bestT n lk ids hh r := by funext e; simp [bF]
theorem bF_end (r e a : Nat) (h : e < a) : bF n lk ids hh r a e = bestT n lk ids hh (r + 1) e := if_pos h
theorem bF_other (r a e : Nat) (h : e ≠ a) : bF n lk ids hh r (a + 1) e = bF n lk ids hh r a e := by
  unfold bF
  by_cases h2 : e < a
  · rw [if_pos h2, if_pos (by omega)]
  · rw [if_neg h2, if_neg (by omega)]
theorem bF_self (r a : Nat) : bF n lk ids hh r (a + 1) a = bestT n lk ids hh (r + 1) a := if_pos (by omega)
end
theorem ent_hh {fz : Nat → Option SB} {ρ : Nat → Nat} {f g : Nat → List Hd} {e : Nat} (h : f e = g e) : EntL fz ρ (hhrow f e) (hhrow g e) := by
  have : hhrow f e = hhrow g e := by unfold hhrow; rw [h]
  rw [this]
  exact EntL.self (hhrow_flat _ _)
theorem ent_hh_nil {fz : Nat → Option SB} {ρ : Nat → Nat} {f : Nat → List Hd} {e : Nat} (h : f e = []) : EntL fz ρ (hhrow f e) [.v (.slice none 0 0)] := by
  refine ⟨_, _, rfl, ?_, rfl⟩
  rw [h]
  show Ent fz ρ (.rsl 18 []) _
  rw [Ent_nilsl]
  trivial
theorem sstore2_n (z n : Nat) (ty : TypeId) (el : Nat → List SV) (w : Nat) (l : List SV) (b e k : Nat) (h1 : k + w ≤ z) (h2 : l.length = w) (h3 : l.all SV.one = true) :
    sstore2 (some (.row ⟨z, n, true, ty, el⟩)) (some w) (some l) b e k = some ⟨.any, ⟨some (b, some (.row ⟨z, n, true, ty, updE n el e k l⟩)), none⟩, e < n⟩ := by
  have h : SB.upd ⟨z, n, true, ty, el⟩ e k l = ⟨z, n, true, ty, updE n el e k l⟩ := by
    unfold SB.upd updE
    split <;> rfl
  simp only [sstore2, h]
  rw [if_pos ⟨h1, h2, h3, trivial⟩]
end Go.SL
