/- WindowOnce, told of values: the plain part, and the walk. -/
import Derived.Test.YtheodenjjaoncaaWinF
set_option linter.unusedVariables false
set_option linter.unusedSimpArgs false
namespace Go.SL
open Go
/-- The k-th text, cut off. -/
def cut64 (T : List (List UInt8)) (k : Nat) : List UInt8 := (T.getD k []).take 64
def sents (T : List (List UInt8)) (a b : Nat) : List (List UInt8) := (List.range' a (b - a)).map (cut64 T)
theorem sents_len (T : List (List UInt8)) (a b : Nat) : (sents T a b).length = b - a := by simp [sents]
theorem sents_snoc (T : List (List UInt8)) (a b : Nat) (h : a ≤ b) : sents T a (b + 1) = sents T a b ++ [cut64 T b] := by
  simp only [sents, show b + 1 - a = (b - a) + 1 by omega, List.range'_concat, List.map_append, List.map_cons, List.map_nil]
  rw [Nat.one_mul, show a + (b - a) = b by omega]
theorem sents_drop (T : List (List UInt8)) (a b j : Nat) : (sents T a b).drop j = sents T (a + j) b := by
  simp only [sents, ← List.map_drop, List.drop_range']
  rw [Nat.mul_one, show b - a - j = b - (a + j) by omega]
theorem sents_at (T : List (List UInt8)) (a b k : Nat) (h : k < b - a) : (sents T a b).getD k [] = cut64 T (a + k) := by
  rw [List.getD_eq_getElem?_getD, sents, List.getElem?_map, List.getElem?_range' h]
  simp
theorem sents_nil (T : List (List UInt8)) (a : Nat) : sents T a a = [] := by simp [sents]
theorem cut64_len (T : List (List UInt8)) (k : Nat) : (cut64 T k).length ≤ 64 := by simp [cut64]; omega
theorem spart_agg (l : List SV) (off n : Nat) : spart true l off n = .agg ((l.drop off).take n) := rfl
theorem take_min64 (l : List UInt8) : l.take (if (64 : Int) < (l.length : Int) then (64 : Int) else (l.length : Int)).toNat = l.take 64 := by
  split
  · rfl
  · rw [Int.toNat_natCast, List.take_of_length_le (Nat.le_refl _), List.take_of_length_le (by omega)]
/-- A row of texts. -/
def srow (T : List (List UInt8)) (e : Nat) : List SV := [.v (.string ⟨(cut64 T e).toArray⟩)]
theorem srow_len (T : List (List UInt8)) (k : Nat) : (srow T k).length = 1 := Eq.trans rfl rfl
theorem srow_flat (T : List (List UInt8)) (k : Nat) : SV.flatL (srow T k) = true := Eq.trans rfl rfl
theorem srow_cell (T : List (List UInt8)) (k : Nat) : cellAt (srow T k) 0 = .v (.string ⟨(cut64 T k).toArray⟩) := Eq.trans rfl rfl
/-- What was said: numbers, each with its text. -/
def arow (T : List (List UInt8)) (A : List Nat) (e : Nat) : List SV := [.v (.int .i64 ((A.getD e 0 + 1 : Nat) : Int)), .v (.string ⟨(cut64 T (A.getD e 0)).toArray⟩)]
theorem arow_len (T : List (List UInt8)) (A : List Nat) (k : Nat) : (arow T A k).length = 2 := Eq.trans rfl rfl
theorem arow_flat (T : List (List UInt8)) (A : List Nat) (k : Nat) : SV.flatL (arow T A k) = true := Eq.trans rfl rfl
/-- Natural numbers, as rows of one cell. -/
def krow (ns : List Nat) (e : Nat) : List SV := [.v (.int .i64 ((ns.getD e 0 : Nat) : Int))]
theorem krow_len (ns : List Nat) (k : Nat) : (krow ns k).length = 1 := Eq.trans rfl rfl
theorem krow_flat (ns : List Nat) (k : Nat) : SV.flatL (krow ns k) = true := Eq.trans rfl rfl
theorem krow_cell (ns : List Nat) (k : Nat) : cellAt (krow ns k) 0 = .v (.int .i64 ((ns.getD k 0 : Nat) : Int)) := Eq.trans rfl rfl
def wayrow (w : Int × Int) : List SV := [.v (.int .i64 w.1), .v (.int .i64 w.2)]
def wayrows (ws : List (Int × Int)) : List (List SV) := ws.map wayrow
theorem wayrows_length (ws : List (Int × Int)) : (wayrows ws).length = ws.length := by simp [wayrows]
theorem wayrows_flat (ws : List (Int × Int)) : SV.flatR (wayrows ws) = true := flatR_map _ _ fun t => rfl
theorem wayrows_at (ws : List (Int × Int)) (k : Nat) (h : k < ws.length) : (wayrows ws).getD k [] = wayrow (ws.getD k (0, 0)) := by
  simp [wayrows, List.getD_eq_getElem?_getD, List.getElem?_eq_getElem h]
theorem wayrow_eq (w : Int × Int) : wayrow w = [.v (.int .i64 w.1), .v (.int .i64 w.2)] := rfl
theorem getD_snoc {α : Type} (l : List α) (x d : α) (e : Nat) (h : e < l.length + 1) : (l ++ [x]).getD e d = if e < l.length then l.getD e d else x := by
  split
  · rename_i h1; simp [List.getD_eq_getElem?_getD, List.getElem?_append_left h1]
  · rename_i h1
    obtain rfl : e = l.length := by omega
    simp [List.getD_eq_getElem?_getD]
theorem ent_app1 {fz : Nat → Option SB} {ρ : Nat → Nat} {f g : Nat → List SV} {x : SV} {n e : Nat} (he : e < n + 1) (hf : ∀ i, i < n → g i = f i) (hn : g n = [x]) (hfl : ∀ i, SV.flatL (g i) = true) : EntL fz ρ (g e) (if e < n then f e else List.take 1 (List.drop (e - n) [x])) := by
  have : (if e < n then f e else List.take 1 (List.drop (e - n) [x])) = g e := by
    split
    · rename_i h; exact (hf e h).symm
    · obtain rfl : e = n := by omega
      rw [hn, Nat.sub_self]; rfl
  rw [this]
  exact EntL.self (hfl e)
theorem ent_app2 {fz : Nat → Option SB} {ρ : Nat → Nat} {f g : Nat → List SV} {x y : SV} {n e : Nat} (he : e < n + 1) (hf : ∀ i, i < n → g i = f i) (hn : g n = [x, y]) (hfl : ∀ i, SV.flatL (g i) = true) : EntL fz ρ (g e) (if e < n then f e else List.take 2 (List.drop ((e - n) * 2) [x, y])) := by
  have : (if e < n then f e else List.take 2 (List.drop ((e - n) * 2) [x, y])) = g e := by
    split
    · rename_i h; exact (hf e h).symm
    · obtain rfl : e = n := by omega
      rw [hn, Nat.sub_self]; rfl
  rw [this]
  exact EntL.self (hfl e)
theorem ent_one1 {fz : Nat → Option SB} {ρ : Nat → Nat} {g : Nat → List SV} {x : SV} {e : Nat} (he : e < 1) (hn : g 0 = [x]) (hfl : ∀ i, SV.flatL (g i) = true) : EntL fz ρ (g e) (List.take 1 (List.drop e [x])) := by
  obtain rfl : e = 0 := by omega
  have := hfl 0
  rw [hn] at this ⊢
  exact EntL.self this
theorem krow_snoc (l : List Nat) (x : Nat) (i : Nat) (h : i < l.length) : krow (l ++ [x]) i = krow l i := by simp [krow, List.getD_eq_getElem?_getD, List.getElem?_append_left h]
theorem krow_last (l : List Nat) (x : Nat) : krow (l ++ [x]) l.length = [.v (.int .i64 ((x : Nat) : Int))] := by simp [krow, List.getD_eq_getElem?_getD]
theorem arow_snoc (T : List (List UInt8)) (l : List Nat) (x : Nat) (i : Nat) (h : i < l.length) : arow T (l ++ [x]) i = arow T l i := by simp [arow, List.getD_eq_getElem?_getD, List.getElem?_append_left h]
theorem arow_last (T : List (List UInt8)) (l : List Nat) (x : Nat) : arow T (l ++ [x]) l.length = [.v (.int .i64 ((x + 1 : Nat) : Int)), .v (.string ⟨(cut64 T x).toArray⟩)] := by simp [arow, List.getD_eq_getElem?_getD]
theorem idx_rng (I : Int) (n : Nat) (h : 0 < n) (h2 : n < 4611686018427387904) : ∃ r : Nat, r < n ∧ IntKind.i64.wrap ((IntKind.u64.wrap I).tmod (n : Int)) = (r : Int) := by
  rw [wrapU64]
  generalize hx : I % 18446744073709551616 = x
  have h1 : 0 ≤ x := by omega
  rw [Int.tmod_eq_emod_of_nonneg h1]
  have h3 := Int.emod_nonneg x (show (n : Int) ≠ 0 by omega)
  have h4 := Int.emod_lt_of_pos x (show (0 : Int) < n by omega)
  rw [wrap_i64 _ (by omega)]
  exact ⟨(x % (n : Int)).toNat, by omega, by omega⟩
/-- What the loop keeps: how far it is, how many were sent, are known to have come, came; what was said; which acknowledgements. -/
structure Once where
  i : Nat
  m : Nat
  a : Nat
  g : Nat
  A : List Nat
  k : List Nat
structure Once.ok (T : List (List UInt8)) (n : Nat) (p : Once) : Prop where
  i : p.i ≤ n
  i3 : p.i ≤ 301
  mi : p.m ≤ p.i
  mT : p.m ≤ T.length
  ag : p.a ≤ p.g
  gm : p.g ≤ p.m
  Al : p.A.length ≤ 2000 + p.i
  An : ∀ x ∈ p.A, x < p.m
  kl : p.k.length ≤ 1 + p.i
  k0 : 0 < p.k.length
  kn : ∀ x ∈ p.k, x ≤ p.g
theorem Once.ok.next {T : List (List UInt8)} {n i m a g : Nat} {A k : List Nat} (h : Once.ok T n ⟨i, m, a, g, A, k⟩) (hi : i < n) (h3 : ¬ 300 < (i : Int)) : Once.ok T n ⟨i + 1, m, a, g, A, k⟩ := by
  obtain ⟨h1, h2, h3, h4, h5, h6, h7, h8, h9, h10, h11⟩ := h
  simp only at *
  exact ⟨by simp only; omega, by simp only; omega, by simp only; omega, h4, h5, h6, by simp only; omega, h8, by simp only; omega, h10, h11⟩
theorem Once.ok.send {T : List (List UInt8)} {n i m a g : Nat} {A k : List Nat} (h : Once.ok T n ⟨i, m, a, g, A, k⟩) (hi : i < n) (h3 : ¬ 300 < (i : Int)) (hm : m < T.length) : Once.ok T n ⟨i + 1, m + 1, a, g, A ++ [m], k⟩ := by
  obtain ⟨h1, h2, h3, h4, h5, h6, h7, h8, h9, h10, h11⟩ := h
  simp only at *
  refine ⟨by simp only; omega, by simp only; omega, by simp only; omega, hm, h5, by simp only; omega, ?_, ?_, by simp only; omega, h10, h11⟩
  · simp only [List.length_append, List.length_cons, List.length_nil]; omega
  · intro x hx
    simp only [List.mem_append, List.mem_cons, List.not_mem_nil, or_false] at hx
    show x < m + 1
    rcases hx with hx | rfl
    · have := h8 x hx; omega
    · omega
theorem Once.ok.ack {T : List (List UInt8)} {n i m a g g' : Nat} {A k : List Nat} (h : Once.ok T n ⟨i, m, a, g, A, k⟩) (hi : i < n) (h3 : ¬ 300 < (i : Int)) (hg : g ≤ g') (hm : g' ≤ m) : Once.ok T n ⟨i + 1, m, a, g', A, k ++ [g']⟩ := by
  obtain ⟨h1, h2, h3, h4, h5, h6, h7, h8, h9, h10, h11⟩ := h
  simp only at *
  refine ⟨by simp only; omega, by simp only; omega, by simp only; omega, h4, by simp only; omega, hm, by simp only; omega, h8, ?_, ?_, ?_⟩
  · simp only [List.length_append, List.length_cons, List.length_nil]; omega
  · simp only [List.length_append, List.length_cons, List.length_nil]; omega
  · intro x hx
    simp only [List.mem_append, List.mem_cons, List.not_mem_nil, or_false] at hx
    show x ≤ g'
    rcases hx with hx | rfl
    · have := h11 x hx; omega
    · omega
theorem Once.ok.known {T : List (List UInt8)} {n i m a g v : Nat} {A k : List Nat} (h : Once.ok T n ⟨i, m, a, g, A, k⟩) (hi : i < n) (h3 : ¬ 300 < (i : Int)) (hv : v ≤ g) : Once.ok T n ⟨i + 1, m, v, g, A, k⟩ := by
  obtain ⟨h1, h2, h3, h4, h5, h6, h7, h8, h9, h10, h11⟩ := h
  simp only at *
  exact ⟨by simp only; omega, by simp only; omega, by simp only; omega, h4, hv, h6, by simp only; omega, h8, by simp only; omega, h10, h11⟩
theorem Once.ok.said {T : List (List UInt8)} {n i m a g : Nat} {A k B : List Nat} (h : Once.ok T n ⟨i, m, a, g, A, k⟩) (hi : i < n) (h3 : ¬ 300 < (i : Int)) (hB : B.length ≤ 2000 + i) (hn : ∀ x ∈ B, x < m) : Once.ok T n ⟨i + 1, m, a, g, B, k⟩ := by
  obtain ⟨h1, h2, h3, h4, h5, h6, h7, h8, h9, h10, h11⟩ := h
  simp only at *
  exact ⟨by simp only; omega, by simp only; omega, by simp only; omega, h4, h5, h6, by simp only; omega, hn, by simp only; omega, h10, h11⟩
theorem getD_mem {α : Type} (l : List α) (r : Nat) (d : α) (h : r < l.length) : l.getD r d ∈ l := by
  rw [List.getD_eq_getElem?_getD, List.getElem?_eq_getElem h, Option.getD_some]
  exact List.getElem_mem h
end Go.SL
namespace Go.Proofs
open Go Go.SL
set_option maxRecDepth 100000
theorem el74 : ElTy Try.prog 74 2 24 := ⟨tab.s74, tab.b74, ⟨_, tab.z74, rfl⟩, by decide, by decide⟩
theorem el9 : ElTy Try.prog 9 1 16 := ⟨tab.s9, tab.b9, ⟨_, tab.z9, rfl⟩, by decide, by decide⟩
theorem el2 : ElTy Try.prog 2 1 8 := ⟨tab.s2, tab.b2, ⟨_, tab.z2, rfl⟩, by decide, by decide⟩
theorem build74 (x : Int) (b : ByteArray) : sBuild Try.prog 74 [(0, .v (.int .i64 x)), (1, .v (.string b))] = some ⟨.agg [.v (.int .i64 x), .v (.string b)], {}, True⟩ := by
  rw [sBuild_eq, tab.z74, tab.l74]
  rfl
theorem alloc72 (N : Nat) : sAlloc Try.prog N 72 = some ⟨.ptr N 0 0, ⟨none, some (.row ⟨2, 1, true, 72, fun _ => [.v (.int .i64 0), .v (.int .i64 0)]⟩)⟩, True⟩ := sAlloc_eq N 72 _ tab.z72 rfl
theorem alloc74 (N : Nat) : sAlloc Try.prog N 74 = some ⟨.ptr N 0 0, ⟨none, some (.row ⟨2, 1, true, 74, fun _ => [.v (.int .i64 0), .v (.string ⟨#[]⟩)]⟩)⟩, True⟩ := sAlloc_eq N 74 _ tab.z74 rfl
theorem bs68 (N : Nat) (x y : SV) (hx : x.one = true) (hy : y.one = true) : sBuildSlice Try.prog N 68 1 [(0, .agg [x, y])] = some ⟨.slc N 0 1, ⟨none, some (.row ⟨2, 1, true, 74, fun e => (([x, y] : List SV).drop (e * 2)).take 2⟩)⟩, True⟩ :=
  buildSlice_one tab.u68 tab.s74 tab.z74 (by decide) rfl (by decide) [x, y] _ rfl rfl (by simp [hx, hy])
theorem bs69 (N : Nat) (x : Int) : sBuildSlice Try.prog N 69 1 [(0, .v (.int .i64 x))] = some ⟨.slc N 0 1, ⟨none, some (.row ⟨1, 1, true, 2, fun e => (([.v (.int .i64 x)] : List SV).drop (e * 1)).take 1⟩)⟩, True⟩ :=
  buildSlice_one tab.u69 tab.s2 tab.z2 (by decide) rfl (by decide) [.v (.int .i64 x)] _ rfl rfl rfl
theorem bs70 (N : Nat) (x : ByteArray) : sBuildSlice Try.prog N 70 1 [(0, .v (.string x))] = some ⟨.slc N 0 1, ⟨none, some (.row ⟨1, 1, true, 9, fun e => (([.v (.string x)] : List SV).drop (e * 1)).take 1⟩)⟩, True⟩ :=
  buildSlice_one tab.u70 tab.s9 tab.z9 (by decide) rfl (by decide) [.v (.string x)] _ rfl rfl rfl
end Go.Proofs
