/- Contracts of functions that the laws reach, on abstract values, and what they need: no conditions but those that each theorem states. -/
import Derived.Test.YtheodenjjaoncaaDecP1
set_option linter.unusedVariables false
set_option linter.unusedSimpArgs false
set_option linter.defProp false
namespace Go.Proofs
open Go Go.SL
set_option linter.unusedVariables false
set_option linter.unusedSimpArgs false
structure Code {α : Type} (rd : Rd α) (enc : α → List UInt8) (good : α → Prop) : Prop where
  get : ∀ x, good x → ∀ pre post : List UInt8, rd (pre ++ (enc x ++ post)) (pre.length : Int) = .ok (x, ((pre.length + (enc x).length : Nat) : Int))
  short : ∀ x, good x → ∀ pre t u : List UInt8, enc x = t ++ u → u ≠ [] → rd (pre ++ t) (pre.length : Int) = .error 3
  one : ∀ (pre rest : List UInt8) (x : α) (q : Int), rd (pre ++ rest) (pre.length : Int) = .ok (x, q) → good x ∧ ∃ post, rest = enc x ++ post ∧ q = ((pre.length + (enc x).length : Nat) : Int)
  err : ∀ b p e, rd b p = .error e → e ≠ 0
theorem Code.pure {α : Type} (z0 : α) : Code (Rd.pure z0) (fun _ => []) (fun z => z = z0) := by
  refine ⟨fun x hx pre post => ?_, fun x hx pre t u h hu => ?_, fun pre rest x q h => ?_, fun b p e h => by unfold Rd.pure at h; cases h⟩
  · subst hx; rfl
  · have : t = [] ∧ u = [] := by simpa using h.symm
    exact absurd this.2 hu
  · unfold Rd.pure at h
    injection h with h
    injection h with h1 h2
    exact ⟨h1.symm, rest, rfl, h2.symm⟩
theorem Code.fail {α : Type} (e : Int) (he : e ≠ 0) (enc : α → List UInt8) : Code (Rd.fail e : Rd α) enc (fun _ => False) :=
  ⟨fun x hx => hx.elim, fun x hx => hx.elim, fun pre rest x q h => (by unfold Rd.fail at h; cases h), fun b p e' h => (by unfold Rd.fail at h; injection h with h; rw [← h]; exact he)⟩
theorem Code.to {α : Type} {rd : Rd α} {e e' : α → List UInt8} {g g' : α → Prop} (h : Code rd e g) (he : ∀ z, g z → e z = e' z) (hg : ∀ z, g z ↔ g' z) : Code rd e' g' := by
  refine ⟨fun x hx pre post => ?_, fun x hx pre t u hh hu => ?_, fun pre rest x q hh => ?_, h.err⟩
  · have hx := (hg x).2 hx
    rw [← he x hx]
    exact h.get x hx pre post
  · have hx := (hg x).2 hx
    rw [← he x hx] at hh
    exact h.short x hx pre t u hh hu
  · obtain ⟨h1, post, h2, h3⟩ := h.one pre rest x q hh
    refine ⟨(hg x).1 h1, post, ?_⟩
    rw [← he x h1]
    exact ⟨h2, h3⟩
theorem Code.bind {α γ : Type} {r : Rd α} {k : α → Rd γ} {e1 : α → List UInt8} {g1 : α → Prop} {e2 : γ → List UInt8} {g2 : γ → Prop} (π : γ → α) (h1 : Code r e1 g1) (h2 : ∀ x, g1 x → Code (k x) e2 (fun z => π z = x ∧ g2 z))
    (hk : ∀ x, ¬ g1 x → ∀ b p e, k x b p = .error e → e ≠ 0) : Code (Rd.bind r k) (fun z => e1 (π z) ++ e2 z) (fun z => g1 (π z) ∧ g2 z) := by
  refine ⟨fun z hz pre post => ?_, fun z hz pre t u h hu => ?_, fun pre rest z q h => ?_, fun b p e h => ?_⟩
  · have a := h1.get (π z) hz.1 pre (e2 z ++ post)
    have b := (h2 (π z) hz.1).get z ⟨rfl, hz.2⟩ (pre ++ e1 (π z)) post
    rw [List.append_assoc, Rd.bind_ok a]
    rw [List.append_assoc, List.length_append] at b
    rw [b, List.length_append, Nat.add_assoc]
  · rcases List.append_eq_append_iff.1 h with ⟨c, hc1, hc2⟩ | ⟨c, hc1, hc2⟩
    ·
      have a := h1.get (π z) hz.1 pre c
      have b := (h2 (π z) hz.1).short z ⟨rfl, hz.2⟩ (pre ++ e1 (π z)) c u hc2 hu
      rw [hc1, Rd.bind_ok a]
      rw [List.append_assoc, List.length_append] at b
      exact b
    · by_cases hc : c = []
      · subst hc
        rw [List.append_nil] at hc1
        rw [List.nil_append] at hc2
        have a := h1.get (π z) hz.1 pre []
        have b := (h2 (π z) hz.1).short z ⟨rfl, hz.2⟩ (pre ++ e1 (π z)) [] u (by rw [hc2]; rfl) hu
        rw [← hc1]
        rw [List.append_nil] at a
        rw [Rd.bind_ok a]
        rw [List.append_nil, List.length_append] at b
        exact b
      · exact Rd.bind_err (h1.short (π z) hz.1 pre t c hc1 hc)
  · rcases hr : r (pre ++ rest) (pre.length : Int) with e | ⟨x, q1⟩
    · rw [Rd.bind_err hr] at h; cases h
    · rw [Rd.bind_ok hr] at h
      obtain ⟨g, post1, hp1, hq1⟩ := h1.one pre rest x q1 hr
      rw [hp1, hq1, ← List.append_assoc, ← List.length_append] at h
      obtain ⟨⟨hx, g3⟩, post, hp, hq⟩ := (h2 x g).one (pre ++ e1 x) post1 z q h
      subst hx
      refine ⟨⟨g, g3⟩, post, ?_, ?_⟩
      · rw [hp1, hp, List.append_assoc]
      · rw [hq, List.length_append, List.length_append, Nat.add_assoc]
  · rcases hr : r b p with e' | ⟨x, q1⟩
    · rw [Rd.bind_err hr] at h
      injection h with h
      rw [← h]
      exact h1.err b p e' hr
    · rw [Rd.bind_ok hr] at h
      by_cases hx : g1 x
      · exact (h2 x hx).err b q1 e h
      · exact hk x hx b q1 e h
theorem Code.map {α γ : Type} {r : Rd α} {e1 : α → List UInt8} {g1 : α → Prop} (h1 : Code r e1 g1) (f : α → γ) (π : γ → α) (g : γ → Prop) (hf : ∀ x, g1 x → g (f x) ∧ π (f x) = x) (hg : ∀ z, g z → g1 (π z) ∧ f (π z) = z) :
    Code (Rd.bind r fun x => Rd.pure (f x)) (fun z => e1 (π z)) g := by
  refine ((Code.bind (e2 := fun _ => []) (g2 := fun z => f (π z) = z) π h1 (fun x hx => (Code.pure (f x)).to (fun _ _ => rfl) fun z => ?_) (fun x _ b p e h => by cases h)).to (fun z _ => by rw [List.append_nil])) fun z => ?_
  · constructor
    · rintro rfl
      have := hf x hx
      exact ⟨this.2, by rw [this.2]⟩
    · rintro ⟨h1, h2⟩
      rw [← h2, h1]
  · constructor
    · rintro ⟨h1, h2⟩
      rw [← h2]
      exact (hf _ h1).1
    · exact fun h => hg z h
theorem getNum_pre (pre l : List UInt8) : getNum (pre ++ l) (pre.length : Int) = if (getNum l 0).2.2 = 0 then ((getNum l 0).1, (pre.length : Int) + (getNum l 0).2.1, 0) else getNum l 0 := by
  have hlen : (pre ++ l).length = pre.length + l.length := List.length_append
  have hg : ∀ i, (pre ++ l).getD (pre.length + i) 0 = l.getD i 0 := by
    intro i
    rw [List.getD_eq_getElem?_getD, List.getElem?_append_right (by omega), Nat.add_sub_cancel_left, ← List.getD_eq_getElem?_getD]
  have hd : ∀ i, (pre ++ l).drop (pre.length + i) = l.drop i := by
    intro i
    rw [List.drop_append, List.drop_of_length_le (by omega), Nat.add_sub_cancel_left, List.nil_append]
  have h0 := hg 0
  have h1 := hg 1
  have h2 := hd 1
  rw [Nat.add_zero] at h0
  generalize hc : (l.getD 0 0).toNat = c at *
  by_cases e : l.length = 0
  · have a : getNum (pre ++ l) (pre.length : Int) = (0, 0, 3) := by
      unfold getNum
      rw [if_neg (by rw [hlen]; omega), if_pos (by rw [hlen]; omega)]
    have b : getNum l 0 = (0, 0, 3) := by
      unfold getNum
      rw [if_neg (by omega), if_pos (by omega)]
    rw [a, b, if_neg (by decide)]
  · by_cases c1 : 8 < c
    · have a : getNum (pre ++ l) (pre.length : Int) = (0, 0, 2) := by
        unfold getNum
        rw [if_neg (by rw [hlen]; omega), if_neg (by rw [hlen]; omega)]
        simp only [Int.toNat_natCast, h0, hc]
        rw [if_pos c1]
      have b : getNum l 0 = (0, 0, 2) := by
        unfold getNum
        rw [if_neg (by omega), if_neg (by omega)]
        simp only [Int.toNat_zero, hc]
        rw [if_pos c1]
      rw [a, b, if_neg (by decide)]
    · by_cases c2 : l.length < 1 + c
      · have a : getNum (pre ++ l) (pre.length : Int) = (0, 0, 3) := by
          unfold getNum
          rw [if_neg (by rw [hlen]; omega), if_neg (by rw [hlen]; omega)]
          simp only [Int.toNat_natCast, h0, hc, hlen]
          rw [if_neg c1, if_pos (by omega)]
        have b : getNum l 0 = (0, 0, 3) := by
          unfold getNum
          rw [if_neg (by omega), if_neg (by omega)]
          simp only [Int.toNat_zero, hc, Nat.zero_add]
          rw [if_neg c1, if_pos (by omega)]
        rw [a, b, if_neg (by decide)]
      · by_cases c3 : 0 < c ∧ (l.getD 1 0).toNat = 0
        · have a : getNum (pre ++ l) (pre.length : Int) = (0, 0, 2) := by
            unfold getNum
            rw [if_neg (by rw [hlen]; omega), if_neg (by rw [hlen]; omega)]
            simp only [Int.toNat_natCast, h0, h1, hc, hlen]
            rw [if_neg c1, if_neg (by omega), if_pos c3]
          have b : getNum l 0 = (0, 0, 2) := by
            unfold getNum
            rw [if_neg (by omega), if_neg (by omega)]
            simp only [Int.toNat_zero, hc, Nat.zero_add]
            rw [if_neg c1, if_neg (by omega), if_pos c3]
          rw [a, b, if_neg (by decide)]
        · have a : getNum (pre ++ l) (pre.length : Int) = (numB ((l.drop 1).take c), (pre.length : Int) + 1 + c, 0) := by
            unfold getNum
            rw [if_neg (by rw [hlen]; omega), if_neg (by rw [hlen]; omega)]
            simp only [Int.toNat_natCast, h0, h1, h2, hc, hlen]
            rw [if_neg c1, if_neg (by omega), if_neg c3]
          have b : getNum l 0 = (numB ((l.drop 1).take c), 1 + (c : Int), 0) := by
            unfold getNum
            rw [if_neg (by omega), if_neg (by omega)]
            simp only [Int.toNat_zero, hc, Nat.zero_add]
            rw [if_neg c1, if_neg (by omega), if_neg c3]
            simp
          rw [a, b, if_pos rfl]
          simp only [Int.add_assoc]
theorem getNum_cut (n : Nat) (hn : n < 18446744073709551616) (t u : List UInt8) (h : form n = t ++ u) (hu : u ≠ []) : (getNum t 0).2.2 = 3 := by
  have hw := wide_le8 n hn
  have hc : (UInt8.ofNat (wide n)).toNat = wide n := by
    rw [UInt8.toNat_ofNat']
    omega
  have hlen : t.length + u.length = wide n + 1 := by rw [← List.length_append, ← h, form_length]
  have hul : 0 < u.length := List.length_pos_iff.2 hu
  unfold getNum
  cases t with
  | nil => simp
  | cons x t =>
    have hx : x = UInt8.ofNat (wide n) := by
      unfold form at h
      injection h with h1 _
      exact h1.symm
    simp only [List.length_cons] at hlen
    rw [if_neg (by simp only [List.length_cons]; omega), if_neg (by simp only [List.length_cons]; omega)]
    simp only [Int.toNat_zero, List.getD_cons_zero, hx, hc, List.length_cons]
    rw [if_neg (by omega), if_pos (by omega)]
theorem rnum_code : Code rnum form (fun n => n < 9223372036854775808) := by
  refine ⟨fun n hn pre post => ?_, fun n hn pre t u h hu => ?_, fun pre rest n q h => ?_, fun b p e h => ?_⟩
  · unfold rnum
    rw [getNum_form pre post n (by omega)]
    simp only
    rw [if_neg (by simp), if_neg (by omega)]
    simp
  · have hc := getNum_cut n (by omega) t u h hu
    unfold rnum
    rw [getNum_pre, if_neg (by rw [hc]; decide)]
    rcases hg : getNum t 0 with ⟨a, b, e⟩
    rw [hg] at hc
    simp only at hc ⊢
    subst hc
    rfl
  · obtain ⟨h1, h2⟩ := rnum_ok h
    rw [getNum_pre] at h1
    obtain ⟨_, hz⟩ := getNum_zero rest
    split at h1
    · rename_i he
      obtain ⟨z1, z2, z3, z4⟩ := hz he
      injection h1 with h1 h3
      injection h3 with h3 _
      refine ⟨h2, rest.drop (getNum rest 0).2.1.toNat, ?_, ?_⟩
      · rw [← h1, z4, List.take_append_drop]
      · have hl : (form n).length = (getNum rest 0).2.1.toNat := by
          rw [← h1, z4, List.length_take]
          omega
        rw [hl, ← h3]
        omega
    · rename_i he
      rw [h1] at he
      exact absurd rfl he
  · unfold rnum at h
    rcases hg : getNum b p with ⟨n, q, e'⟩
    rw [hg] at h
    simp only at h
    split at h
    · rename_i he
      injection h with h
      rw [← h]
      exact he
    · split at h
      · injection h with h
        rw [← h]
        decide
      · cases h
def iB (x : I16) : List UInt8 := x.l.map fun v => UInt8.ofNat v.toNat
theorem iB_length (x : I16) : (iB x).length = 16 := by simp [iB, x.len]
theorem iB_bI (l : List UInt8) (h : l.length = 16) : iB (bI l h) = l := by
  simp only [iB, bI, List.map_map]
  conv => rhs; rw [← List.map_id l]
  refine List.map_congr_left fun c _ => ?_
  simp
theorem bI_iB (x : I16) : bI (iB x) (iB_length x) = x := by
  have h : (bI (iB x) (iB_length x)).l = x.l := by
    simp only [iB, bI, List.map_map]
    conv => rhs; rw [← List.map_id x.l]
    refine List.map_congr_left fun c hc => ?_
    have := x.rng c hc
    simp only [Function.comp, id, UInt8.toNat_ofNat']
    omega
  cases x
  simp only at h
  exact (I16.mk.injEq ..).mpr h
theorem ridI_code : Code ridI iB (fun _ => True) := by
  refine ⟨fun x _ pre post => ?_, fun x _ pre t u h hu => ?_, fun pre rest x q h => ?_, fun b p e h => ?_⟩
  · have hl := iB_length x
    have hg : getID (pre ++ (iB x ++ post)) (pre.length : Int) = (iB x, (pre.length : Int) + 16, 0) := by
      unfold getID
      rw [if_neg (by simp only [List.length_append]; omega), if_neg (by simp only [List.length_append]; omega)]
      simp only [Int.toNat_natCast]
      rw [List.drop_left' rfl, List.take_left' hl]
    have hr : rid (pre ++ (iB x ++ post)) (pre.length : Int) = .ok (iB x, (pre.length : Int) + 16) := by
      unfold rid
      rw [hg]
      simp
    unfold ridI
    rw [hr]
    simp only
    rw [dif_pos hl, bI_iB, hl]
    simp
  · have hl : t.length + u.length = 16 := by rw [← List.length_append, ← h, iB_length]
    have hul : 0 < u.length := List.length_pos_iff.2 hu
    have hg : getID (pre ++ t) (pre.length : Int) = (z16, 0, 3) := by
      unfold getID
      rw [if_neg (by simp only [List.length_append]; omega), if_pos (by simp only [List.length_append]; omega)]
    unfold ridI rid
    rw [hg]
    simp
  · refine ⟨trivial, ?_⟩
    unfold ridI at h
    rcases hr : rid (pre ++ rest) (pre.length : Int) with e | ⟨y, q1⟩
    · rw [hr] at h; cases h
    · rw [hr] at h
      simp only at h
      split at h
      · rename_i hy
        injection h with h
        injection h with h1 h2
        subst h1 h2
        unfold rid getID at hr
        simp only [List.length_append, Int.toNat_natCast] at hr
        rw [List.drop_left' rfl] at hr
        split at hr
        · simp at hr
        · split at hr
          · simp at hr
          · simp only [ne_eq, not_true_eq_false, if_false] at hr
            injection hr with hr
            injection hr with h3 h4
            subst h4
            refine ⟨rest.drop 16, ?_, ?_⟩
            · rw [iB_bI, ← h3, List.take_append_drop]
            · rw [iB_length]
              omega
      · cases h
  · unfold ridI at h
    rcases hr : rid b p with e' | ⟨y, q1⟩
    · rw [hr] at h
      injection h with h
      rw [← h]
      unfold rid at hr
      rcases hg : getID b p with ⟨x, q, e2⟩
      rw [hg] at hr
      simp only at hr
      split at hr
      · rename_i he
        injection hr with hr
        rw [← hr]
        exact he
      · cases hr
    · rw [hr] at h
      simp only at h
      split at h
      · cases h
      · injection h with h
        rw [← h]
        decide
theorem rtext_code (most : Nat) (hm : most < 9223372036854775808) : Code (rtext (most : Int)) (fun t => form t.length ++ t) (fun t => t.length ≤ most) := by
  have key : ∀ (pre rest : List UInt8), rtext (most : Int) (pre ++ rest) (pre.length : Int) =
      match getNum rest 0 with
      | (n, q, e) => if e ≠ 0 then .error e else if most < n then .error 4 else if (rest.length : Int) - q < n then .error 3 else .ok ((rest.drop q.toNat).take n, (pre.length : Int) + q + n) := by
    intro pre rest
    unfold rtext getText
    rw [getNum_pre]
    obtain ⟨_, hz⟩ := getNum_zero rest
    rcases hg : getNum rest 0 with ⟨n, q, e⟩
    rw [hg] at hz
    simp only at hz ⊢
    by_cases he : e = 0
    · obtain ⟨z1, z2, z3, z4⟩ := hz he
      rw [if_pos he]
      simp only [ne_eq, not_true_eq_false, if_false, he, List.length_append]
      by_cases h1 : most < n
      · have c1 : (most : Int) < 0 ∨ (most : Int) < (n : Int) := by omega
        rw [if_pos c1, if_pos h1]
        simp
      · have c1 : ¬ ((most : Int) < 0 ∨ (most : Int) < (n : Int)) := by omega
        rw [if_neg c1, if_neg h1]
        by_cases h2 : (rest.length : Int) - q < n
        · have c2 : ((pre.length + rest.length : Nat) : Int) - ((pre.length : Int) + q) < (n : Int) := by omega
          rw [if_pos c2, if_pos h2]
          simp
        · have c2 : ¬ (((pre.length + rest.length : Nat) : Int) - ((pre.length : Int) + q) < (n : Int)) := by omega
          rw [if_neg c2, if_neg h2]
          have hd : (pre ++ rest).drop ((pre.length : Int) + q).toNat = rest.drop q.toNat := by
            rw [show ((pre.length : Int) + q).toNat = pre.length + q.toNat by omega, List.drop_append, List.drop_of_length_le (by omega), Nat.add_sub_cancel_left, List.nil_append]
          simp [hd]
    · simp [he]
  refine ⟨fun t ht pre post => ?_, fun t ht pre s u h hu => ?_, fun pre rest t q h => ?_, fun b p e h => ?_⟩
  · have hg := getNum_form [] (t ++ post) t.length (by omega)
    simp only [List.nil_append, List.length_nil] at hg
    rw [key, List.append_assoc]
    rw [show ((0 : Nat) : Int) = 0 from rfl] at hg
    rw [hg]
    simp only [ne_eq, not_true_eq_false, if_false]
    rw [if_neg (by omega), if_neg (by simp only [List.length_append]; omega)]
    have hd : (form t.length ++ (t ++ post)).drop ((0 : Int) + ((form t.length).length : Int)).toNat = t ++ post := by
      rw [show ((0 : Int) + ((form t.length).length : Int)).toNat = (form t.length).length by omega, List.drop_left' rfl]
    rw [hd, List.take_left' rfl]
    simp only [List.length_append]
    congr 2
    omega
  · rw [key]
    rcases List.append_eq_append_iff.1 h with ⟨c, hc1, hc2⟩ | ⟨c, hc1, hc2⟩
    · have hg := getNum_form [] c t.length (by omega)
      simp only [List.nil_append, List.length_nil] at hg
      rw [show ((0 : Nat) : Int) = 0 from rfl] at hg
      rw [hc1, hg]
      have hul : 0 < u.length := List.length_pos_iff.2 hu
      have : t.length = c.length + u.length := by rw [hc2, List.length_append]
      simp only [ne_eq, not_true_eq_false, if_false]
      rw [if_neg (by omega), if_pos (by simp only [List.length_append]; omega)]
    · by_cases hc : c = []
      · subst hc
        rw [List.append_nil] at hc1
        rw [List.nil_append] at hc2
        have hg := getNum_form [] [] t.length (by omega)
        simp only [List.nil_append, List.length_nil, List.append_nil] at hg
        rw [show ((0 : Nat) : Int) = 0 from rfl] at hg
        rw [← hc1, hg]
        have hul : 0 < u.length := List.length_pos_iff.2 hu
        have : t.length = u.length := by rw [hc2]
        simp only [ne_eq, not_true_eq_false, if_false]
        rw [if_neg (by omega), if_pos (by omega)]
      · have h3 := getNum_cut t.length (by omega) s c hc1 hc
        rcases hg : getNum s 0 with ⟨n, q, e⟩
        rw [hg] at h3
        simp only at h3 ⊢
        subst h3
        rfl
  · rw [key] at h
    obtain ⟨_, hz⟩ := getNum_zero rest
    rcases hg : getNum rest 0 with ⟨n, q1, e⟩
    rw [hg] at hz h
    simp only at hz h
    split at h
    · cases h
    · rename_i he
      split at h
      · cases h
      · rename_i hn
        split at h
        · cases h
        · rename_i hl
          injection h with h
          injection h with h1 h2
          obtain ⟨z1, z2, z3, z4⟩ := hz (by omega)
          have hlen : t.length = n := by
            rw [← h1, List.length_take, List.length_drop]
            omega
          refine ⟨by omega, (rest.drop q1.toNat).drop n, ?_, ?_⟩
          · rw [List.append_assoc, hlen, z4, ← h1, List.take_append_drop, List.take_append_drop]
          · rw [List.length_append, hlen, z4, List.length_take]
            omega
  · unfold rtext at h
    rcases hg : getText b p (most : Int) with ⟨x, q, e'⟩
    rw [hg] at h
    simp only at h
    split at h
    · rename_i he
      injection h with h
      rw [← h]
      exact he
    · cases h
end Go.Proofs
namespace Go.Proofs
open Go Go.SL
set_option linter.unusedVariables false
set_option linter.unusedSimpArgs false
theorem Code.congr {α : Type} {rd rd' : Rd α} {e : α → List UInt8} {g : α → Prop} (h : Code rd e g) (hr : rd' = rd) : Code rd' e g := by rw [hr]; exact h
theorem both_bind {α β : Type} (r : Rd α) (s : Rd β) : Rd.both r s = Rd.bind r fun x => Rd.bind s fun y => Rd.pure (x, y) := by
  funext b p
  unfold Rd.both Rd.bind Rd.pure
  rcases r b p with e | ⟨x, q⟩
  · rfl
  · rcases hs : s b q with e | ⟨y, q'⟩ <;> simp only [hs]
theorem map_bind {α β : Type} (f : α → β) (r : Rd α) : Rd.map f r = Rd.bind r fun x => Rd.pure (f x) := by
  funext b p
  unfold Rd.map Rd.bind Rd.pure
  rcases r b p with e | ⟨x, q⟩ <;> rfl
theorem Code.both {α β : Type} {r : Rd α} {s : Rd β} {e1 : α → List UInt8} {e2 : β → List UInt8} {g1 : α → Prop} {g2 : β → Prop} (h1 : Code r e1 g1) (h2 : Code s e2 g2) : Code (Rd.both r s) (fun z => e1 z.1 ++ e2 z.2) (fun z => g1 z.1 ∧ g2 z.2) := by
  rw [both_bind]
  refine Code.bind (e2 := fun z => e2 z.2) (g2 := fun z => g2 z.2) Prod.fst h1 (fun x hx => ?_) fun x _ b p e h => ?_
  rotate_left
  · unfold Rd.bind at h
    rcases hs : s b p with e' | ⟨y, q⟩
    · rw [hs] at h
      injection h with h
      rw [← h]
      exact h2.err b p e' hs
    · rw [hs] at h
      cases h
  refine Code.map (π := Prod.snd) h2 (fun y => (x, y)) _ (fun y hy => ⟨⟨rfl, hy⟩, rfl⟩) fun z hz => ⟨hz.2, ?_⟩
  rw [← hz.1]
theorem Code.maps {α γ : Type} {r : Rd α} {e1 : α → List UInt8} {g1 : α → Prop} (h1 : Code r e1 g1) (f : α → γ) (π : γ → α) (hf : ∀ x, g1 x → π (f x) = x) :
    Code (Rd.map f r) (fun z => e1 (π z)) (fun z => g1 (π z) ∧ f (π z) = z) := by
  rw [map_bind]
  exact Code.map h1 f π _ (fun x hx => ⟨⟨by rw [hf x hx]; exact hx, by rw [hf x hx]⟩, hf x hx⟩) fun z hz => hz
theorem Code.filt {α γ : Type} {r : Rd α} {e1 : α → List UInt8} {g1 : α → Prop} (h1 : Code r e1 g1) (bad : α → Prop) [DecidablePred bad] (e : Int) (he : e ≠ 0) (f : α → γ) (π : γ → α) (g : γ → Prop)
    (hf : ∀ x, g1 x → ¬ bad x → g (f x) ∧ π (f x) = x) (hg : ∀ z, g z → g1 (π z) ∧ ¬ bad (π z) ∧ f (π z) = z) : Code (Rd.bind r fun x => if bad x then Rd.fail e else Rd.pure (f x)) (fun z => e1 (π z)) g := by
  refine ((Code.bind (e2 := fun _ => []) (g2 := fun z => ¬ bad (π z) ∧ f (π z) = z) π h1 (fun x hx => ?_) fun x _ b p e' h => ?_).to (fun z _ => by rw [List.append_nil])) fun z => ?_
  rotate_left
  · split at h
    · unfold Rd.fail at h
      injection h with h
      rw [← h]
      exact he
    · cases h
  rotate_left
  · by_cases hb : bad x
    · rw [if_pos hb]
      refine (Code.fail e he (fun _ => [])).to (fun z hz => hz.elim) fun z => ⟨fun h => h.elim, fun h => ?_⟩
      rw [h.1] at h
      exact h.2.1 hb
    · rw [if_neg hb]
      refine (Code.pure (f x)).to (fun _ _ => rfl) fun z => ⟨?_, ?_⟩
      · rintro rfl
        have := hf x hx hb
        exact ⟨this.2, by rw [this.2]; exact hb, by rw [this.2]⟩
      · rintro ⟨h1, h2, h3⟩
        rw [← h3, h1]
  · constructor
    · rintro ⟨h1, h2, h3⟩
      rw [← h3]
      exact (hf _ h1 h2).1
    · exact fun h => hg z h
theorem rflag_code : Code rflag (fun t => form (if t then 1 else 0)) (fun _ => True) := by
  have e : rflag = Rd.bind rnum fun n => if 1 < n then Rd.fail 2 else Rd.pure (decide (n = 1)) := by
    funext b p
    unfold rflag Rd.bind
    rcases rnum b p with e | ⟨n, q⟩
    · rfl
    · simp only
      split <;> rfl
  rw [e]
  refine (Code.filt rnum_code (fun n => 1 < n) 2 (by decide) (fun n => decide (n = 1)) (fun t => if t then 1 else 0) (fun _ => True) (fun n _ hn => ⟨trivial, ?_⟩) fun t _ => ?_)
  · have hn : n ≤ 1 := by omega
    by_cases h : n = 1
    · simp [h]
    · have : n = 0 := by omega
      simp [this]
  · cases t <;> simp
theorem rmany_code (most : Nat) : Code (rmany (most : Int)) form (fun n => n < 9223372036854775808 ∧ n ≤ most) := by
  have e : rmany (most : Int) = Rd.bind rnum fun n => if most < n then Rd.fail 4 else Rd.pure n := by
    funext b p
    unfold rmany Rd.bind
    rcases rnum b p with e | ⟨n, q⟩
    · rfl
    · simp only
      by_cases h : most < n
      · rw [if_pos h, if_pos (by omega)]; rfl
      · rw [if_neg h, if_neg (by omega)]; rfl
  rw [e]
  exact Code.filt rnum_code (fun n => most < n) 4 (by decide) (fun n => n) (fun n => n) _ (fun n h1 h2 => ⟨⟨h1, by omega⟩, rfl⟩) fun n h => ⟨h.1, by omega, rfl⟩
theorem rsmall_code (lo hi : Nat) (e : Int) (he : e ≠ 0) (h : hi < 99) : Code (rsmall lo hi e) form (fun n => lo ≤ n ∧ n ≤ hi) :=
  Code.filt rnum_code (fun x => min x 99 < lo ∨ hi < min x 99) e he (fun x => min x 99) (fun n => n) _ (fun n h1 h2 => ⟨by omega, by omega⟩) fun n h => ⟨by omega, by omega, by omega⟩
theorem rpair_code : Code rpair (fun x => form x.1 ++ form x.2) (fun x => x.1 < 9223372036854775808 ∧ x.2 < 9223372036854775808) := by
  have e : rpair = Rd.both rnum rnum := by rw [both_bind]; rfl
  rw [e]
  exact rnum_code.both rnum_code
theorem rpath_code : Code rpath (fun x => iB x.1 ++ form x.2) (fun x => True ∧ x.2 < 9223372036854775808) := by
  have e : rpath = Rd.both ridI rnum := by rw [both_bind]; rfl
  rw [e]
  exact ridI_code.both rnum_code
theorem rver_code : Code rver (fun x => form x.1 ++ iB x.2) (fun x => x.1 < 9223372036854775808 ∧ True) := by
  have e : rver = Rd.both rnum ridI := by rw [both_bind]; rfl
  rw [e]
  exact rnum_code.both ridI_code
def txB (t : List UInt8) : List UInt8 := form t.length ++ t
theorem ritem_code : Code ritem (fun x => iB x.1 ++ ((form x.2.1.1 ++ iB x.2.1.2) ++ txB x.2.2)) (fun x => True ∧ (x.2.1.1 < 9223372036854775808 ∧ True) ∧ x.2.2.length ≤ 64) := by
  have e : ritem = Rd.both ridI (Rd.both rver (rtext 64)) := by
    rw [both_bind, both_bind]
    unfold ritem
    congr 1
    funext x
    funext b p
    unfold Rd.bind
    rcases rver b p with e | ⟨v, q⟩
    · rfl
    · simp only
      rcases rtext 64 b q with e | ⟨t, q2⟩ <;> rfl
  rw [e]
  exact ridI_code.both (rver_code.both (rtext_code 64 (by decide)))
def legB : List Int → List UInt8
  | [] => []
  | x :: l => form x.toNat ++ legB l
def idsB : List I16 → List UInt8
  | [] => []
  | x :: l => iB x ++ idsB l
theorem rlegs_code : ∀ n, Code (rlegs n) legB (fun l => l.length = n ∧ ∀ v ∈ l, 0 ≤ v ∧ v < 6)
  | 0 => (Code.pure ([] : List Int)).to (fun z hz => by rw [hz]; rfl) fun z => ⟨by rintro rfl; simp, fun h => List.length_eq_zero_iff.1 h.1⟩
  | n + 1 => by
    refine (Code.bind (e2 := fun l => legB l.tail) (g2 := fun l => l.length = n + 1 ∧ ∀ v ∈ l, 0 ≤ v ∧ v < 6) (fun l : List Int => (l.headD 0).toNat) rnum_code (fun x hx => ?_) fun x _ b p e h => ?_).to ?_ ?_
    rotate_left
    · split at h
      · unfold Rd.fail at h
        injection h with h
        rw [← h]
        decide
      · unfold Rd.bind at h
        rcases hs : rlegs n b p with e' | ⟨y, q⟩
        · rw [hs] at h
          injection h with h
          rw [← h]
          exact (rlegs_code n).err b p e' hs
        · rw [hs] at h
          cases h
    rotate_right
    · by_cases h : 6 ≤ x
      · rw [if_pos h]
        refine (Code.fail 2 (by decide) (fun _ => [])).to (fun z hz => hz.elim) fun z => ⟨fun h => h.elim, fun h2 => ?_⟩
        obtain ⟨h1, h2, h3⟩ := h2
        cases z with
        | nil => simp at h2
        | cons v z =>
          have := h3 v (by simp)
          simp only [List.headD_cons] at h1
          omega
      · rw [if_neg h]
        refine Code.map (π := List.tail) (rlegs_code n) (fun l => (x : Int) :: l) _ (fun l hl => ⟨⟨?_, ?_, ?_⟩, rfl⟩) fun z hz => ?_
        · simp
        · simp [hl.1]
        · intro v hv
          rcases List.mem_cons.1 hv with rfl | hv
          · omega
          · exact hl.2 v hv
        · obtain ⟨h1, h2, h3⟩ := hz
          cases z with
          | nil => simp at h2
          | cons v z =>
            have h4 := h3 v (by simp)
            simp only [List.headD_cons] at h1
            simp only [List.length_cons] at h2
            refine ⟨⟨by simp only [List.tail_cons]; omega, fun u hu => h3 u (by simp at hu; simp [hu])⟩, ?_⟩
            simp only [List.tail_cons]
            congr 1
            omega
    · intro z hz
      cases z with
      | nil => have := hz.2.1; simp at this
      | cons v z => rfl
    · intro z
      constructor
      · exact fun h => h.2
      · intro h
        refine ⟨?_, h⟩
        cases z with
        | nil => have := h.1; simp at this
        | cons v z =>
          have h4 := h.2 v (by simp)
          simp only [List.headD_cons]
          omega
theorem rtrail_code : Code rtrail (fun l => form l.length ++ legB l) (fun l => l.length ≤ 64 ∧ ∀ v ∈ l, 0 ≤ v ∧ v < 6) := by
  refine (Code.bind (e2 := legB) (g2 := fun l => ∀ v ∈ l, 0 ≤ v ∧ v < 6) List.length (rmany_code 64) (fun n hn => (rlegs_code n).to (fun _ _ => rfl) fun z => Iff.rfl) fun n _ => (rlegs_code n).err).to (fun _ _ => rfl) fun z => ?_
  constructor
  · exact fun h => ⟨h.1.2, h.2⟩
  · exact fun h => ⟨⟨by omega, h.1⟩, h.2⟩
theorem rids_code : ∀ n, Code (rids n) idsB (fun l => l.length = n)
  | 0 => (Code.pure ([] : List I16)).to (fun z hz => by rw [hz]; rfl) fun z => ⟨by rintro rfl; simp, fun h => List.length_eq_zero_iff.1 h⟩
  | n + 1 => by
    refine (Code.bind (e2 := fun l => idsB l.tail) (g2 := fun l => l.length = n + 1) (fun l : List I16 => l.headD I16.zero) ridI_code (fun x hx => ?_) fun x hx => absurd trivial hx).to ?_ ?_
    · refine Code.map (π := List.tail) (rids_code n) (fun l => x :: l) _ (fun l hl => ⟨⟨?_, ?_⟩, rfl⟩) fun z hz => ?_
      · simp
      · simp [hl]
      · obtain ⟨h1, h2⟩ := hz
        cases z with
        | nil => simp at h2
        | cons v z =>
          simp only [List.headD_cons] at h1
          simp only [List.length_cons] at h2
          refine ⟨by simp only [List.tail_cons]; omega, ?_⟩
          simp only [List.tail_cons, h1]
    · intro z hz
      cases z with
      | nil => have := hz.2; simp at this
      | cons v z => rfl
    · exact fun z => ⟨fun h => h.2, fun h => ⟨trivial, h⟩⟩
theorem ridl_code : Code ridl (fun l => form l.length ++ idsB l) (fun l => l.length ≤ 16) := by
  refine (Code.bind (e2 := idsB) (g2 := fun _ => True) List.length (rmany_code 16) (fun n hn => (rids_code n).to (fun _ _ => rfl) fun z => by simp) fun n _ => (rids_code n).err).to (fun _ _ => rfl) fun z => ?_
  constructor
  · exact fun h => h.1.2
  · exact fun h => ⟨⟨by omega, h⟩, trivial⟩
end Go.Proofs
namespace Go.Proofs
open Go Go.SL
set_option linter.unusedVariables false
set_option linter.unusedSimpArgs false
def N (i : Int) : List UInt8 := form i.toNat
def flB (t : Bool) : List UInt8 := form (if t then 1 else 0)
def pr1 (F : Frm) : (Nat × Nat) × (Nat × Nat) × I16 := ((F.fi.toNat, F.fn.toNat), (F.ti.toNat, F.tn.toNat), F.a)
def pr2 (F : Frm) : (Nat × Nat) × (Nat × Nat) × Nat × List UInt8 := ((F.fi.toNat, F.fn.toNat), (F.ti.toNat, F.tn.toNat), F.n.toNat, F.tx)
def pr3 (F : Frm) : (Nat × Nat) × (Nat × Nat) × Nat := ((F.fi.toNat, F.fn.toNat), (F.ti.toNat, F.tn.toNat), F.n.toNat)
def pr4 (F : Frm) : (I16 × Nat) × I16 × I16 × List Int := ((F.who, F.pn.toNat), F.a, F.b, F.tr)
def pr5 (F : Frm) : I16 × Nat := (F.who, F.pn.toNat)
def pr6 (F : Frm) : (I16 × Nat) × Bool := ((F.who, F.pn.toNat), F.toA)
def pr7 (F : Frm) : (I16 × Nat) × Bool × List I16 := ((F.who, F.pn.toNat), F.toA, F.is)
def pr8 (F : Frm) : I16 × I16 × Nat × (I16 × Nat) × Bool × List Int := (F.a, F.b, F.op.toNat, (F.who, F.pn.toNat), F.toA, F.tr)
def pr9 (F : Frm) : I16 × Nat := (F.a, F.n.toNat)
def pr10 (F : Frm) : I16 × I16 × Nat × Nat × Nat × (I16 × (Nat × I16) × List UInt8) × List UInt8 := (F.a, F.b, F.n.toNat, F.op.toNat, F.ttl.toNat, (F.key, (F.vn.toNat, F.vwho), F.val), F.tx)
def pr11 (F : Frm) : (I16 × Nat) × Bool × (I16 × (Nat × I16) × List UInt8) := ((F.who, F.pn.toNat), F.toA, (F.key, (F.vn.toNat, F.vwho), F.val))
def pr12 (F : Frm) : (I16 × Nat) × Bool × I16 × (Nat × I16) := ((F.who, F.pn.toNat), F.toA, F.key, (F.vn.toNat, F.vwho))
def bare (k : Nat) (F : Frm) : Frm :=
  match k with
  | 1 => { kF 1 with fi := F.fi, fn := F.fn, ti := F.ti, tn := F.tn, a := F.a }
  | 2 => { kF 2 with fi := F.fi, fn := F.fn, ti := F.ti, tn := F.tn, n := F.n, tx := F.tx }
  | 3 => { kF 3 with fi := F.fi, fn := F.fn, ti := F.ti, tn := F.tn, n := F.n }
  | 4 => { kF 4 with who := F.who, pn := F.pn, a := F.a, b := F.b, tr := F.tr }
  | 5 => { kF 5 with who := F.who, pn := F.pn }
  | 6 => { kF 6 with who := F.who, pn := F.pn, toA := F.toA }
  | 7 => { kF 7 with who := F.who, pn := F.pn, toA := F.toA, is := F.is }
  | 8 => { kF 8 with a := F.a, b := F.b, op := F.op, who := F.who, pn := F.pn, toA := F.toA, tr := F.tr }
  | 9 => { kF 9 with a := F.a, n := F.n }
  | 10 => { kF 10 with a := F.a, b := F.b, n := F.n, op := F.op, ttl := F.ttl, key := F.key, vn := F.vn, vwho := F.vwho, val := F.val, tx := F.tx }
  | 11 => { kF 11 with who := F.who, pn := F.pn, toA := F.toA, key := F.key, vn := F.vn, vwho := F.vwho, val := F.val }
  | 12 => { kF 12 with who := F.who, pn := F.pn, toA := F.toA, key := F.key, vn := F.vn, vwho := F.vwho }
  | _ => zFrm
def right (k : Nat) (F : Frm) : Prop :=
  match k with
  | 1 => 0 ≤ F.fi ∧ 0 ≤ F.fn ∧ 0 ≤ F.ti ∧ 0 ≤ F.tn
  | 2 => 0 ≤ F.fi ∧ 0 ≤ F.fn ∧ 0 ≤ F.ti ∧ 0 ≤ F.tn ∧ 0 ≤ F.n ∧ (F.tx.length ≤ 4096)
  | 3 => 0 ≤ F.fi ∧ 0 ≤ F.fn ∧ 0 ≤ F.ti ∧ 0 ≤ F.tn ∧ 0 ≤ F.n
  | 4 => 0 ≤ F.pn ∧ (F.tr.length ≤ 64 ∧ ∀ v ∈ F.tr, 0 ≤ v ∧ v < 6)
  | 5 => 0 ≤ F.pn
  | 6 => 0 ≤ F.pn
  | 7 => 0 ≤ F.pn ∧ (F.is.length ≤ 16)
  | 8 => 0 ≤ F.pn ∧ (F.tr.length ≤ 64 ∧ ∀ v ∈ F.tr, 0 ≤ v ∧ v < 6) ∧ (0 ≤ F.op ∧ F.op ≤ 3)
  | 9 => 0 ≤ F.n
  | 10 => 0 ≤ F.n ∧ 0 ≤ F.vn ∧ (1 ≤ F.op ∧ F.op ≤ 4) ∧ (0 ≤ F.ttl ∧ F.ttl ≤ 64) ∧ (F.val.length ≤ 64) ∧ (F.tx.length ≤ 64)
  | 11 => 0 ≤ F.pn ∧ 0 ≤ F.vn ∧ (F.val.length ≤ 64)
  | 12 => 0 ≤ F.pn ∧ 0 ≤ F.vn
  | _ => False
def bodyB (k : Nat) (F : Frm) : List UInt8 :=
  match k with
  | 1 => (N F.fi ++ N F.fn) ++ ((N F.ti ++ N F.tn) ++ iB F.a)
  | 2 => (N F.fi ++ N F.fn) ++ ((N F.ti ++ N F.tn) ++ (N F.n ++ txB F.tx))
  | 3 => (N F.fi ++ N F.fn) ++ ((N F.ti ++ N F.tn) ++ N F.n)
  | 4 => (iB F.who ++ N F.pn) ++ (iB F.a ++ (iB F.b ++ (form F.tr.length ++ legB F.tr)))
  | 5 => iB F.who ++ N F.pn
  | 6 => (iB F.who ++ N F.pn) ++ flB F.toA
  | 7 => (iB F.who ++ N F.pn) ++ (flB F.toA ++ (form F.is.length ++ idsB F.is))
  | 8 => iB F.a ++ (iB F.b ++ (N F.op ++ ((iB F.who ++ N F.pn) ++ (flB F.toA ++ (form F.tr.length ++ legB F.tr)))))
  | 9 => iB F.a ++ N F.n
  | 10 => iB F.a ++ (iB F.b ++ (N F.n ++ (N F.op ++ (N F.ttl ++ ((iB F.key ++ ((N F.vn ++ iB F.vwho) ++ txB F.val)) ++ txB F.tx)))))
  | 11 => (iB F.who ++ N F.pn) ++ (flB F.toA ++ (iB F.key ++ ((N F.vn ++ iB F.vwho) ++ txB F.val)))
  | 12 => (iB F.who ++ N F.pn) ++ (flB F.toA ++ (iB F.key ++ (N F.vn ++ iB F.vwho)))
  | _ => []
def fits (k : Nat) (F : Frm) : Prop :=
  match k with
  | 1 => (0 ≤ F.fi ∧ F.fi < 9223372036854775808) ∧ (0 ≤ F.fn ∧ F.fn < 9223372036854775808) ∧ (0 ≤ F.ti ∧ F.ti < 9223372036854775808) ∧ (0 ≤ F.tn ∧ F.tn < 9223372036854775808)
  | 2 => (0 ≤ F.fi ∧ F.fi < 9223372036854775808) ∧ (0 ≤ F.fn ∧ F.fn < 9223372036854775808) ∧ (0 ≤ F.ti ∧ F.ti < 9223372036854775808) ∧ (0 ≤ F.tn ∧ F.tn < 9223372036854775808) ∧ (0 ≤ F.n ∧ F.n < 9223372036854775808) ∧ (F.tx.length ≤ 4096)
  | 3 => (0 ≤ F.fi ∧ F.fi < 9223372036854775808) ∧ (0 ≤ F.fn ∧ F.fn < 9223372036854775808) ∧ (0 ≤ F.ti ∧ F.ti < 9223372036854775808) ∧ (0 ≤ F.tn ∧ F.tn < 9223372036854775808) ∧ (0 ≤ F.n ∧ F.n < 9223372036854775808)
  | 4 => (0 ≤ F.pn ∧ F.pn < 9223372036854775808) ∧ (F.tr.length ≤ 64 ∧ ∀ v ∈ F.tr, 0 ≤ v ∧ v < 6)
  | 5 => (0 ≤ F.pn ∧ F.pn < 9223372036854775808)
  | 6 => (0 ≤ F.pn ∧ F.pn < 9223372036854775808)
  | 7 => (0 ≤ F.pn ∧ F.pn < 9223372036854775808) ∧ (F.is.length ≤ 16)
  | 8 => (0 ≤ F.pn ∧ F.pn < 9223372036854775808) ∧ (F.tr.length ≤ 64 ∧ ∀ v ∈ F.tr, 0 ≤ v ∧ v < 6) ∧ (0 ≤ F.op ∧ F.op ≤ 3)
  | 9 => (0 ≤ F.n ∧ F.n < 9223372036854775808)
  | 10 => (0 ≤ F.n ∧ F.n < 9223372036854775808) ∧ (0 ≤ F.vn ∧ F.vn < 9223372036854775808) ∧ (1 ≤ F.op ∧ F.op ≤ 4) ∧ (0 ≤ F.ttl ∧ F.ttl ≤ 64) ∧ (F.val.length ≤ 64) ∧ (F.tx.length ≤ 64)
  | 11 => (0 ≤ F.pn ∧ F.pn < 9223372036854775808) ∧ (0 ≤ F.vn ∧ F.vn < 9223372036854775808) ∧ (F.val.length ≤ 64)
  | 12 => (0 ≤ F.pn ∧ F.pn < 9223372036854775808) ∧ (0 ≤ F.vn ∧ F.vn < 9223372036854775808)
  | _ => False
def goodB (k : Nat) (F : Frm) : Prop := fits k F ∧ F = bare k F
theorem code1 : Code (rbody 1) (bodyB 1) (goodB 1) := by
  refine ((rpair_code.both (rpair_code.both ridI_code)).maps fr1 pr1 (fun x _ => by simp [fr1, pr1])).to (fun F _ => rfl) fun F => ?_
  have e : (0 ≤ F.fi ∧ 0 ≤ F.fn ∧ 0 ≤ F.ti ∧ 0 ≤ F.tn) → fr1 (pr1 F) = bare 1 F := fun h => by simp only [fr1, pr1, bare, Int.toNat_of_nonneg, h]
  refine Iff.intro (fun h => ?_) fun h => ?_
  · have hn : 0 ≤ F.fi ∧ 0 ≤ F.fn ∧ 0 ≤ F.ti ∧ 0 ≤ F.tn := by
      have n_fi : ((F.fi.toNat : Nat) : Int) = F.fi := congrArg Frm.fi h.2
      have n_fn : ((F.fn.toNat : Nat) : Int) = F.fn := congrArg Frm.fn h.2
      have n_ti : ((F.ti.toNat : Nat) : Int) = F.ti := congrArg Frm.ti h.2
      have n_tn : ((F.tn.toNat : Nat) : Int) = F.tn := congrArg Frm.tn h.2
      (repeat' apply And.intro) <;> omega
    refine And.intro ?_ (h.2.symm.trans (e hn))
    have h1 := h.1
    simp only [pr1] at h1
    simp only [fits]
    (repeat' apply And.intro) <;> first | omega | exact h1.2.2.2 | exact h1.2.2.2.2.2.2 | exact h1.2.2.2.2
  · have hf := h.1
    simp only [fits] at hf
    refine And.intro ?_ ((e (by (repeat' apply And.intro) <;> omega)).trans h.2.symm)
    simp only [pr1]
    (repeat' apply And.intro) <;> first | trivial | omega | exact hf.2.2 | exact hf.2.1.2
theorem code2 : Code (rbody 2) (bodyB 2) (goodB 2) := by
  refine ((rpair_code.both (rpair_code.both (rnum_code.both (rtext_code 4096 (by decide))))).maps fr2 pr2 (fun x _ => by simp [fr2, pr2])).to (fun F _ => rfl) fun F => ?_
  have e : (0 ≤ F.fi ∧ 0 ≤ F.fn ∧ 0 ≤ F.ti ∧ 0 ≤ F.tn ∧ 0 ≤ F.n) → fr2 (pr2 F) = bare 2 F := fun h => by simp only [fr2, pr2, bare, Int.toNat_of_nonneg, h]
  refine Iff.intro (fun h => ?_) fun h => ?_
  · have hn : 0 ≤ F.fi ∧ 0 ≤ F.fn ∧ 0 ≤ F.ti ∧ 0 ≤ F.tn ∧ 0 ≤ F.n := by
      have n_fi : ((F.fi.toNat : Nat) : Int) = F.fi := congrArg Frm.fi h.2
      have n_fn : ((F.fn.toNat : Nat) : Int) = F.fn := congrArg Frm.fn h.2
      have n_ti : ((F.ti.toNat : Nat) : Int) = F.ti := congrArg Frm.ti h.2
      have n_tn : ((F.tn.toNat : Nat) : Int) = F.tn := congrArg Frm.tn h.2
      have n_n : ((F.n.toNat : Nat) : Int) = F.n := congrArg Frm.n h.2
      (repeat' apply And.intro) <;> omega
    refine And.intro ?_ (h.2.symm.trans (e hn))
    have h1 := h.1
    simp only [pr2] at h1
    simp only [fits]
    (repeat' apply And.intro) <;> first | omega | exact h1.2.2.2 | exact h1.2.2.2.2.2.2 | exact h1.2.2.2.2
  · have hf := h.1
    simp only [fits] at hf
    refine And.intro ?_ ((e (by (repeat' apply And.intro) <;> omega)).trans h.2.symm)
    simp only [pr2]
    (repeat' apply And.intro) <;> first | trivial | omega | exact hf.2.2 | exact hf.2.1.2
theorem code3 : Code (rbody 3) (bodyB 3) (goodB 3) := by
  refine ((rpair_code.both (rpair_code.both rnum_code)).maps fr3 pr3 (fun x _ => by simp [fr3, pr3])).to (fun F _ => rfl) fun F => ?_
  have e : (0 ≤ F.fi ∧ 0 ≤ F.fn ∧ 0 ≤ F.ti ∧ 0 ≤ F.tn ∧ 0 ≤ F.n) → fr3 (pr3 F) = bare 3 F := fun h => by simp only [fr3, pr3, bare, Int.toNat_of_nonneg, h]
  refine Iff.intro (fun h => ?_) fun h => ?_
  · have hn : 0 ≤ F.fi ∧ 0 ≤ F.fn ∧ 0 ≤ F.ti ∧ 0 ≤ F.tn ∧ 0 ≤ F.n := by
      have n_fi : ((F.fi.toNat : Nat) : Int) = F.fi := congrArg Frm.fi h.2
      have n_fn : ((F.fn.toNat : Nat) : Int) = F.fn := congrArg Frm.fn h.2
      have n_ti : ((F.ti.toNat : Nat) : Int) = F.ti := congrArg Frm.ti h.2
      have n_tn : ((F.tn.toNat : Nat) : Int) = F.tn := congrArg Frm.tn h.2
      have n_n : ((F.n.toNat : Nat) : Int) = F.n := congrArg Frm.n h.2
      (repeat' apply And.intro) <;> omega
    refine And.intro ?_ (h.2.symm.trans (e hn))
    have h1 := h.1
    simp only [pr3] at h1
    simp only [fits]
    (repeat' apply And.intro) <;> first | omega | exact h1.2.2.2 | exact h1.2.2.2.2.2.2 | exact h1.2.2.2.2
  · have hf := h.1
    simp only [fits] at hf
    refine And.intro ?_ ((e (by (repeat' apply And.intro) <;> omega)).trans h.2.symm)
    simp only [pr3]
    (repeat' apply And.intro) <;> first | trivial | omega | exact hf.2.2 | exact hf.2.1.2
theorem code4 : Code (rbody 4) (bodyB 4) (goodB 4) := by
  refine ((rpath_code.both (ridI_code.both (ridI_code.both rtrail_code))).maps fr4 pr4 (fun x _ => by simp [fr4, pr4])).to (fun F _ => rfl) fun F => ?_
  have e : (0 ≤ F.pn) → fr4 (pr4 F) = bare 4 F := fun h => by simp only [fr4, pr4, bare, Int.toNat_of_nonneg, h]
  refine Iff.intro (fun h => ?_) fun h => ?_
  · have hn : 0 ≤ F.pn := by
      have n_pn : ((F.pn.toNat : Nat) : Int) = F.pn := congrArg Frm.pn h.2
      (repeat' apply And.intro) <;> omega
    refine And.intro ?_ (h.2.symm.trans (e hn))
    have h1 := h.1
    simp only [pr4] at h1
    simp only [fits]
    (repeat' apply And.intro) <;> first | omega | exact h1.2.2.2 | exact h1.2.2.2.2.2.2 | exact h1.2.2.2.2
  · have hf := h.1
    simp only [fits] at hf
    refine And.intro ?_ ((e (by (repeat' apply And.intro) <;> omega)).trans h.2.symm)
    simp only [pr4]
    (repeat' apply And.intro) <;> first | trivial | omega | exact hf.2.2 | exact hf.2.1.2
theorem code5 : Code (rbody 5) (bodyB 5) (goodB 5) := by
  refine ((rpath_code).maps fr5 pr5 (fun x _ => by simp [fr5, pr5])).to (fun F _ => rfl) fun F => ?_
  have e : (0 ≤ F.pn) → fr5 (pr5 F) = bare 5 F := fun h => by simp only [fr5, pr5, bare, Int.toNat_of_nonneg, h]
  refine Iff.intro (fun h => ?_) fun h => ?_
  · have hn : 0 ≤ F.pn := by
      have n_pn : ((F.pn.toNat : Nat) : Int) = F.pn := congrArg Frm.pn h.2
      (repeat' apply And.intro) <;> omega
    refine And.intro ?_ (h.2.symm.trans (e hn))
    have h1 := h.1
    simp only [pr5] at h1
    simp only [fits]
    (repeat' apply And.intro) <;> first | omega | exact h1.2.2.2 | exact h1.2.2.2.2.2.2 | exact h1.2.2.2.2
  · have hf := h.1
    simp only [fits] at hf
    refine And.intro ?_ ((e (by (repeat' apply And.intro) <;> omega)).trans h.2.symm)
    simp only [pr5]
    (repeat' apply And.intro) <;> first | trivial | omega | exact hf.2.2 | exact hf.2.1.2
theorem code6 : Code (rbody 6) (bodyB 6) (goodB 6) := by
  refine ((rpath_code.both rflag_code).maps fr6 pr6 (fun x _ => by simp [fr6, pr6])).to (fun F _ => rfl) fun F => ?_
  have e : (0 ≤ F.pn) → fr6 (pr6 F) = bare 6 F := fun h => by simp only [fr6, pr6, bare, Int.toNat_of_nonneg, h]
  refine Iff.intro (fun h => ?_) fun h => ?_
  · have hn : 0 ≤ F.pn := by
      have n_pn : ((F.pn.toNat : Nat) : Int) = F.pn := congrArg Frm.pn h.2
      (repeat' apply And.intro) <;> omega
    refine And.intro ?_ (h.2.symm.trans (e hn))
    have h1 := h.1
    simp only [pr6] at h1
    simp only [fits]
    (repeat' apply And.intro) <;> first | omega | exact h1.2.2.2 | exact h1.2.2.2.2.2.2 | exact h1.2.2.2.2
  · have hf := h.1
    simp only [fits] at hf
    refine And.intro ?_ ((e (by (repeat' apply And.intro) <;> omega)).trans h.2.symm)
    simp only [pr6]
    (repeat' apply And.intro) <;> first | trivial | omega | exact hf.2.2 | exact hf.2.1.2
theorem code7 : Code (rbody 7) (bodyB 7) (goodB 7) := by
  refine ((rpath_code.both (rflag_code.both ridl_code)).maps fr7 pr7 (fun x _ => by simp [fr7, pr7])).to (fun F _ => rfl) fun F => ?_
  have e : (0 ≤ F.pn) → fr7 (pr7 F) = bare 7 F := fun h => by simp only [fr7, pr7, bare, Int.toNat_of_nonneg, h]
  refine Iff.intro (fun h => ?_) fun h => ?_
  · have hn : 0 ≤ F.pn := by
      have n_pn : ((F.pn.toNat : Nat) : Int) = F.pn := congrArg Frm.pn h.2
      (repeat' apply And.intro) <;> omega
    refine And.intro ?_ (h.2.symm.trans (e hn))
    have h1 := h.1
    simp only [pr7] at h1
    simp only [fits]
    (repeat' apply And.intro) <;> first | omega | exact h1.2.2.2 | exact h1.2.2.2.2.2.2 | exact h1.2.2.2.2
  · have hf := h.1
    simp only [fits] at hf
    refine And.intro ?_ ((e (by (repeat' apply And.intro) <;> omega)).trans h.2.symm)
    simp only [pr7]
    (repeat' apply And.intro) <;> first | trivial | omega | exact hf.2.2 | exact hf.2.1.2
theorem code8 : Code (rbody 8) (bodyB 8) (goodB 8) := by
  refine ((ridI_code.both (ridI_code.both ((rsmall_code 0 3 2 (by decide) (by decide)).both (rpath_code.both (rflag_code.both rtrail_code))))).maps fr8 pr8 (fun x _ => by simp [fr8, pr8])).to (fun F _ => rfl) fun F => ?_
  have e : (0 ≤ F.op ∧ 0 ≤ F.pn) → fr8 (pr8 F) = bare 8 F := fun h => by simp only [fr8, pr8, bare, Int.toNat_of_nonneg, h]
  refine Iff.intro (fun h => ?_) fun h => ?_
  · have hn : 0 ≤ F.op ∧ 0 ≤ F.pn := by
      have n_op : ((F.op.toNat : Nat) : Int) = F.op := congrArg Frm.op h.2
      have n_pn : ((F.pn.toNat : Nat) : Int) = F.pn := congrArg Frm.pn h.2
      (repeat' apply And.intro) <;> omega
    refine And.intro ?_ (h.2.symm.trans (e hn))
    have h1 := h.1
    simp only [pr8] at h1
    simp only [fits]
    (repeat' apply And.intro) <;> first | omega | exact h1.2.2.2 | exact h1.2.2.2.2.2.2 | exact h1.2.2.2.2
  · have hf := h.1
    simp only [fits] at hf
    refine And.intro ?_ ((e (by (repeat' apply And.intro) <;> omega)).trans h.2.symm)
    simp only [pr8]
    (repeat' apply And.intro) <;> first | trivial | omega | exact hf.2.2 | exact hf.2.1.2
theorem code9 : Code (rbody 9) (bodyB 9) (goodB 9) := by
  refine ((ridI_code.both rnum_code).maps fr9 pr9 (fun x _ => by simp [fr9, pr9])).to (fun F _ => rfl) fun F => ?_
  have e : (0 ≤ F.n) → fr9 (pr9 F) = bare 9 F := fun h => by simp only [fr9, pr9, bare, Int.toNat_of_nonneg, h]
  refine Iff.intro (fun h => ?_) fun h => ?_
  · have hn : 0 ≤ F.n := by
      have n_n : ((F.n.toNat : Nat) : Int) = F.n := congrArg Frm.n h.2
      (repeat' apply And.intro) <;> omega
    refine And.intro ?_ (h.2.symm.trans (e hn))
    have h1 := h.1
    simp only [pr9] at h1
    simp only [fits]
    (repeat' apply And.intro) <;> first | omega | exact h1.2.2.2 | exact h1.2.2.2.2.2.2 | exact h1.2.2.2.2
  · have hf := h.1
    simp only [fits] at hf
    refine And.intro ?_ ((e (by (repeat' apply And.intro) <;> omega)).trans h.2.symm)
    simp only [pr9]
    (repeat' apply And.intro) <;> first | trivial | omega | exact hf.2.2 | exact hf.2.1.2
theorem code10 : Code (rbody 10) (bodyB 10) (goodB 10) := by
  refine ((ridI_code.both (ridI_code.both (rnum_code.both ((rsmall_code 1 4 2 (by decide) (by decide)).both ((rsmall_code 0 64 2 (by decide) (by decide)).both (ritem_code.both (rtext_code 64 (by decide)))))))).maps fr10 pr10 (fun x _ => by simp [fr10, pr10])).to (fun F _ => rfl) fun F => ?_
  have e : (0 ≤ F.n ∧ 0 ≤ F.op ∧ 0 ≤ F.ttl ∧ 0 ≤ F.vn) → fr10 (pr10 F) = bare 10 F := fun h => by simp only [fr10, pr10, bare, Int.toNat_of_nonneg, h]
  refine Iff.intro (fun h => ?_) fun h => ?_
  · have hn : 0 ≤ F.n ∧ 0 ≤ F.op ∧ 0 ≤ F.ttl ∧ 0 ≤ F.vn := by
      have n_n : ((F.n.toNat : Nat) : Int) = F.n := congrArg Frm.n h.2
      have n_op : ((F.op.toNat : Nat) : Int) = F.op := congrArg Frm.op h.2
      have n_ttl : ((F.ttl.toNat : Nat) : Int) = F.ttl := congrArg Frm.ttl h.2
      have n_vn : ((F.vn.toNat : Nat) : Int) = F.vn := congrArg Frm.vn h.2
      (repeat' apply And.intro) <;> omega
    refine And.intro ?_ (h.2.symm.trans (e hn))
    have h1 := h.1
    simp only [pr10] at h1
    simp only [fits]
    (repeat' apply And.intro) <;> first | omega | exact h1.2.2.2 | exact h1.2.2.2.2.2.2 | exact h1.2.2.2.2
  · have hf := h.1
    simp only [fits] at hf
    refine And.intro ?_ ((e (by (repeat' apply And.intro) <;> omega)).trans h.2.symm)
    simp only [pr10]
    (repeat' apply And.intro) <;> first | trivial | omega | exact hf.2.2 | exact hf.2.1.2
theorem code11 : Code (rbody 11) (bodyB 11) (goodB 11) := by
  refine ((rpath_code.both (rflag_code.both ritem_code)).maps fr11 pr11 (fun x _ => by simp [fr11, pr11])).to (fun F _ => rfl) fun F => ?_
  have e : (0 ≤ F.pn ∧ 0 ≤ F.vn) → fr11 (pr11 F) = bare 11 F := fun h => by simp only [fr11, pr11, bare, Int.toNat_of_nonneg, h]
  refine Iff.intro (fun h => ?_) fun h => ?_
  · have hn : 0 ≤ F.pn ∧ 0 ≤ F.vn := by
      have n_pn : ((F.pn.toNat : Nat) : Int) = F.pn := congrArg Frm.pn h.2
      have n_vn : ((F.vn.toNat : Nat) : Int) = F.vn := congrArg Frm.vn h.2
      (repeat' apply And.intro) <;> omega
    refine And.intro ?_ (h.2.symm.trans (e hn))
    have h1 := h.1
    simp only [pr11] at h1
    simp only [fits]
    (repeat' apply And.intro) <;> first | omega | exact h1.2.2.2 | exact h1.2.2.2.2.2.2 | exact h1.2.2.2.2
  · have hf := h.1
    simp only [fits] at hf
    refine And.intro ?_ ((e (by (repeat' apply And.intro) <;> omega)).trans h.2.symm)
    simp only [pr11]
    (repeat' apply And.intro) <;> first | trivial | omega | exact hf.2.2 | exact hf.2.1.2
theorem code12 : Code (rbody 12) (bodyB 12) (goodB 12) := by
  refine ((rpath_code.both (rflag_code.both (ridI_code.both rver_code))).maps fr12 pr12 (fun x _ => by simp [fr12, pr12])).to (fun F _ => rfl) fun F => ?_
  have e : (0 ≤ F.pn ∧ 0 ≤ F.vn) → fr12 (pr12 F) = bare 12 F := fun h => by simp only [fr12, pr12, bare, Int.toNat_of_nonneg, h]
  refine Iff.intro (fun h => ?_) fun h => ?_
  · have hn : 0 ≤ F.pn ∧ 0 ≤ F.vn := by
      have n_pn : ((F.pn.toNat : Nat) : Int) = F.pn := congrArg Frm.pn h.2
      have n_vn : ((F.vn.toNat : Nat) : Int) = F.vn := congrArg Frm.vn h.2
      (repeat' apply And.intro) <;> omega
    refine And.intro ?_ (h.2.symm.trans (e hn))
    have h1 := h.1
    simp only [pr12] at h1
    simp only [fits]
    (repeat' apply And.intro) <;> first | omega | exact h1.2.2.2 | exact h1.2.2.2.2.2.2 | exact h1.2.2.2.2
  · have hf := h.1
    simp only [fits] at hf
    refine And.intro ?_ ((e (by (repeat' apply And.intro) <;> omega)).trans h.2.symm)
    simp only [pr12]
    (repeat' apply And.intro) <;> first | trivial | omega | exact hf.2.2 | exact hf.2.1.2
end Go.Proofs
namespace Go.Proofs
open Go Go.SL
set_option linter.unusedVariables false
set_option linter.unusedSimpArgs false
theorem bare_kind (k : Nat) (h1 : 1 ≤ k) (h2 : k ≤ 12) (F : Frm) : (bare k F).kind = k := by
  have : k = 1 ∨ k = 2 ∨ k = 3 ∨ k = 4 ∨ k = 5 ∨ k = 6 ∨ k = 7 ∨ k = 8 ∨ k = 9 ∨ k = 10 ∨ k = 11 ∨ k = 12 := by omega
  rcases this with rfl | rfl | rfl | rfl | rfl | rfl | rfl | rfl | rfl | rfl | rfl | rfl <;> rfl
theorem rbody_code (k : Nat) (h1 : 1 ≤ k) (h2 : k ≤ 12) : Code (rbody k) (bodyB k) (goodB k) := by
  have : k = 1 ∨ k = 2 ∨ k = 3 ∨ k = 4 ∨ k = 5 ∨ k = 6 ∨ k = 7 ∨ k = 8 ∨ k = 9 ∨ k = 10 ∨ k = 11 ∨ k = 12 := by omega
  rcases this with rfl | rfl | rfl | rfl | rfl | rfl | rfl | rfl | rfl | rfl | rfl | rfl
  · exact code1
  · exact code2
  · exact code3
  · exact code4
  · exact code5
  · exact code6
  · exact code7
  · exact code8
  · exact code9
  · exact code10
  · exact code11
  · exact code12
theorem rbody_none (k : Nat) (h : ¬ (1 ≤ k ∧ k ≤ 12)) : rbody k = Rd.fail 2 := by
  unfold rbody
  split <;> first | omega | rfl
def _root_.Go.SL.Frm.k (F : Frm) : Nat := F.kind.toNat
def bytesB (F : Frm) : List UInt8 := form F.k ++ bodyB F.k F
def good (F : Frm) : Prop := 1 ≤ F.k ∧ F.k ≤ 12 ∧ goodB F.k F
theorem rdec_code : Code rdec bytesB good := by
  refine (Code.bind (e2 := fun F => bodyB F.k F) (g2 := good) Frm.k rnum_code (fun x hx => ?_) fun x hx => ?_).to (fun _ _ => rfl) fun F => ?_
  · by_cases h : 1 ≤ x ∧ x ≤ 12
    · have hm : min x 99 = x := by omega
      rw [hm]
      have hk : ∀ z, goodB x z → z.k = x := by
        intro z hz
        have := bare_kind x h.1 h.2 z
        rw [← hz.2] at this
        unfold Frm.k
        rw [this]
        simp
      refine (rbody_code x h.1 h.2).to (fun z hz => by rw [hk z hz]) fun z => ⟨fun hz => ?_, fun hz => ?_⟩
      · have := hk z hz
        exact ⟨this, by rw [good, this]; exact ⟨h.1, h.2, hz⟩⟩
      · rw [good, hz.1] at hz
        exact hz.2.2.2
    · rw [rbody_none _ (by omega)]
      refine (Code.fail 2 (by decide) (fun _ => [])).to (fun z hz => hz.elim) fun z => ⟨fun h => h.elim, fun hz => ?_⟩
      rw [good, hz.1] at hz
      exact h ⟨hz.2.1, hz.2.2.1⟩
  · intro b p e he
    by_cases h : 1 ≤ min x 99 ∧ min x 99 ≤ 12
    · exact (rbody_code _ h.1 h.2).err b p e he
    · rw [rbody_none _ h] at he
      exact (Code.fail 2 (by decide) (fun _ : Frm => [])).err b p e he
  · refine ⟨fun h => h.2, fun h => ⟨?_, h⟩⟩
    have := h.1
    have := h.2.1
    omega
end Go.Proofs
