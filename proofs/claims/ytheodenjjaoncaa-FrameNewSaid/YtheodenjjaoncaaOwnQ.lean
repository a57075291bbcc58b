/- Contracts of functions that the laws reach, on abstract values, and what they need: no conditions but those that each theorem states. -/
import Derived.Test.YtheodenjjaoncaaOwnP
import Derived.Test.YtheodenjjaoncaaDecP2
import Derived.Test.YtheodenjjaoncaaFraP
set_option linter.unusedVariables false
set_option linter.unusedSimpArgs false
set_option linter.defProp false
namespace Go.Proofs
open Go Go.SL
set_option maxRecDepth 100000
theorem bytR_ent {fz : Nat → Option SB} {ρ : Nat → Nat} {t : List UInt8} {e : Nat} (h : e < t.length) : EntL fz ρ (brow t e) ((brows t).getD e []) := by
  rw [brows_at t e h]; exact EntL.self (brow_flat _ _)
def ownqc0 :=
  (aI (aI @I16.one (aI @IC.one @bdset_a)) (aI @idrs_len (aI @lrows_length @zF.eq_1)))
def ownqb0 :=
  (aI (aI (aI (aI ownqc0 @FC.c_length) (aI @FC.one_eq @I16.c_length)) (aI (aI @I16.flat @IC.c_length) (aI @brow_flat @bsl_flat))) (aI (aI (aI @idrs_flat @lrow_flat) (aI @lrows_flat @nres.flat)) (aI (aI @p144_flat @p144_one) (aI @p147_flat (aI @p147_len @p147_one)))))
def ownqc1 :=
  (aI (aI (aI (aI @FC.at_is @FC.at_kind) (aI @FC.at_op @FC.at_ttl)) (aI (aI @FC.set_P @FC.set_a) (aI @FC.set_b (aI @FC.set_from @FC.set_is)))) (aI (aI (aI @FC.set_it @FC.set_key) (aI @FC.set_n (aI @FC.set_op @FC.set_to))) (aI (aI @FC.set_toA @FC.set_tr) (aI @FC.set_ttl (aI @FC.set_tx @FC.set_ver)))))
def ownqc2 :=
  (aI (aI (aI (aI @FC.part @FC.set_all) (aI @Int.cast_ofNat_Int @SKren_row)) (aI (aI @after_mk @al151) (aI @brow_cell (aI @cellAt_succ @cellAt_zero)))) (aI (aI (aI @mergeL_done @mergeL_own) (aI @mergeL_row (aI @renL_cons @renL_flat))) (aI (aI @renL_nil @ren_tup) (aI @splice_0 (aI @splice_c @splice_s)))))
def ownqc3 :=
  (aI (aI @beq_self_eq_true.{0} (aI @brun_a @cond_false.{1})) (aI (aI @cond_true.{1} @tab.a3) (aI @tab.s3 @tab.u3)))
def ownqb1 :=
  (aI (aI (aI ownqc1 (aI ownqc2 ownqc3)) (aI @FC.c_length (aI @brows_at @tab.a35))) (aI (aI @tab.a37 (aI @tab.a5 @tab.s35)) (aI (aI @tab.s37 @tab.s5) (aI @tab.u35 @tab.u36))))
def ownqb2 :=
  (aI (aI (aI @I16.flat @brow_flat) (aI @bsl_flat @idrs_flat)) (aI (aI @lrow_flat @lrows_flat) (aI @nres.flat (aI @p144_flat @p147_flat))))
def ownqb3 :=
  (aI (aI (aI ownqc3 @tab.a35) (aI @tab.a37 @tab.a5)) (aI (aI @tab.s35 @tab.s37) (aI @tab.s5 (aI @tab.u35 @tab.u36))))
def ownqb4 :=
  (aI (aI (aI ownqc1 (aI ownqc2 ownqc3)) (aI (aI @FC.c_length @brows_at) (aI @bs35_0 @tab.a35))) (aI (aI @tab.a37 (aI @tab.a5 @tab.s35)) (aI (aI @tab.s37 @tab.s5) (aI @tab.u35 @tab.u36))))
def ownqb5 :=
  (aI (aI (aI (aI ownqc1 ownqc2) (aI ownqc3 @FC.c_length)) (aI (aI @brows_at @bwk_a) (aI @eq_self.{1} (aI @forall_const.{1} @implies_true.{0})))) (aI (aI (aI @implies_true.{1} @tab.a35) (aI @tab.a37 @tab.a5)) (aI (aI @tab.s35 @tab.s37) (aI @tab.s5 (aI @tab.u35 @tab.u36)))))
theorem getText_own (l : List UInt8) (p most : Int) (hl : l.length ≤ 140737488355328) (hp : -9223372036854775808 ≤ p ∧ p < 9223372036854775808) (hm : most < 9223372036854775808) (x : List UInt8) (q : Int) (hx : getText l p most = (x, q, 0)) :
    SCall Try.prog 66 [bsl l, .v (.int .i64 p), .v (.int .i64 most)] [] fun r L => r = .ret (.tup [.slc 0 0 x.length, .v (.int .i64 q), .v (.int .i64 0)]) ∧ L = [bytR x] := by
  have hg := hx
  unfold getText at hg
  have hok := getNum_ok l p
  unfold bytR
  refine SCall.mk (fn := Try.f66) (by kernel_rfl) rfl (Nat.le_of_ble_eq_true (by kernel_rfl)) ?_
  refine goC ?_
  simp -dsimp +decide (disch := first | omega | simp +decide only [ownqb0]) only [ownqb1, ↓brun_b, envOf, Nat.reduceAdd, Nat.reduceBEq]
  refine SemOps.callq (k := 1000) cal.f42 (getNum_calls l p (by omega) hp) rfl rfl rfl rfl (by simp only [bflat_a]) (by simp only [ownqb2]) (dK rfl) ?_
  generalize getNum l p = r at *
  obtain ⟨n, e, c⟩ := r
  simp only at hok hg
  simp -dsimp +decide (disch := first | omega | simp +decide only [ownqb0]) only [ownqb1, ↓brun_b, Nat.reduceBEq, nres]
  refine SCond.split (fun h => ?_) (fun h => ?_)
  · have hc : c ≠ 0 := by simpa using h
    rw [if_pos hc] at hg
    exact absurd (congrArg (fun z => z.2.2) hg) hc
  · have hc : c = 0 := by simpa using h
    subst hc
    rw [if_neg (by simp)] at hg
    obtain ⟨k, rfl, hk, hn, hp0, hpk⟩ := hok rfl
    have hw1 : IntKind.i64.wrap ((l.length : Int) - (k : Int)) = ((l.length - k : Nat) : Int) := by rw [wrap_i64 _ (by omega)]; omega
    have hw2 : IntKind.u64.wrap ((l.length - k : Nat) : Int) = ((l.length - k : Nat) : Int) := wrap_u64 _ (by omega)
    simp -dsimp +decide (disch := first | omega | simp +decide only [ownqb0]) only [ownqb1, ↓brun_b, Nat.reduceBEq]
    refine SIf.split (fun h1 => ?_) (fun h1 => ?_)
    · have h1' : most < 0 := by simpa using h1
      rw [if_pos (.inl h1')] at hg
      exact absurd (show (4 : Int) = 0 from congrArg (fun z => z.2.2) hg) (by decide)
    · have h1' : ¬ most < 0 := by simpa using h1
      have hw3 : IntKind.u64.wrap most = most := wrap_u64 _ (by omega)
      simp -dsimp +decide (disch := first | omega | simp +decide only [ownqb0]) only [ownqb1, ↓brun_b, Nat.reduceBEq, h1, hw3]
      refine SCond.split (fun h2 => ?_) (fun h2 => ?_)
      · have h2' : most < n := by simpa using h2
        rw [if_pos (.inr h2')] at hg
        exact absurd (show (4 : Int) = 0 from congrArg (fun z => z.2.2) hg) (by decide)
      · have h2' : ¬ most < n := by simpa using h2
        rw [if_neg (by omega)] at hg
        simp -dsimp +decide (disch := first | omega | simp +decide only [ownqb0]) only [ownqb1, ↓brun_b, Nat.reduceBEq, hw1, hw2]
        refine SCond.split (fun h3 => ?_) (fun h3 => ?_)
        · simp only [decide_eq_true_eq] at h3
          rw [if_pos (by omega)] at hg
          exact absurd (show (3 : Int) = 0 from congrArg (fun z => z.2.2) hg) (by decide)
        · simp only [decide_eq_false_iff_not] at h3
          rw [if_neg (by omega)] at hg
          injection hg with hg1 hg2
          injection hg2 with hg2 _
          have hw4 : IntKind.i64.wrap (n : Int) = (n : Int) := wrap_i64 _ (by omega)
          obtain rfl : q = ((k + n : Nat) : Int) := by omega
          have hw5 : IntKind.i64.wrap ((k : Int) + (n : Int)) = ((k + n : Nat) : Int) := by rw [wrap_i64 _ (by omega)]; rfl
          simp -dsimp +decide (disch := first | omega | simp +decide only [ownqb0]) only [ownqb4, ↓brun_b, Nat.reduceAdd, Nat.reduceBEq, hw4, hw5, sapp1_sl el5]
          have hm : (l.take (k + n)).drop k = (l.drop k).take n := by rw [List.drop_take]; congr 1; omega
          rw [hm]
          have hxe : (l.drop k).take n = x := hg1
          rw [hxe]
          have hlen : x.length = n := by rw [← hxe]; simp; omega
          refine ⟨⟨by omega, by omega, by omega⟩, by omega, ?_⟩
          refine SQ.runL (rs := [.tmp 6, .tmp 7, .tmp 8]) [1] _ _ rfl (And.intro rfl rfl) (by decide) rfl rfl ?_ ?_
          · simp -dsimp +decide (disch := first | omega | simp +decide only [ownqb0]) only [ownqb5, reduceIte, Nat.reduceAdd, ↓reduceIte]
            exact fun e he => bytR_ent he
          · simp -dsimp +decide (disch := first | omega | simp +decide only [ownqb0]) only [ownqb5, ↓brun_b, reduceIte, Nat.reduceAdd, Nat.reduceBEq, ↓reduceIte]
def ownqb6 :=
  (aI (aI (aI ownqc1 (aI ownqc2 ownqc3)) (aI (aI @FC.c_length @brows_at) (aI @tab.a35 @tab.a37))) (aI (aI @tab.a5 (aI @tab.f251x0 @tab.f251x1)) (aI (aI @tab.s35 @tab.s37) (aI @tab.s5 @tab.u35))))
def ownqb7 :=
  (aI (aI (aI @List.length_cons.{0} @List.length_nil.{0}) (aI @Nat.zero_add @roL_in)) (aI (aI @roL_nil @roL_none) (aI @roL_row @ro_mk)))
def ownqb8 :=
  (aI (aI (aI (aI ownqc1 ownqc2) (aI ownqc3 @FC.c_length)) (aI (aI @brows_at @bwk_a) (aI @eq_self.{1} (aI @forall_const.{1} @implies_true.{0})))) (aI (aI (aI @implies_true.{1} @tab.a35) (aI @tab.a37 (aI @tab.a5 @tab.f251x0))) (aI (aI @tab.f251x1 @tab.s35) (aI @tab.s37 (aI @tab.s5 @tab.u35)))))
def ownqb9 :=
  (aI (aI (aI ownqc3 @tab.a35) (aI @tab.a37 (aI @tab.a5 @tab.f251x0))) (aI (aI @tab.f251x1 @tab.s35) (aI @tab.s37 (aI @tab.s5 @tab.u35))))
theorem text_own (most : Int) (hm : most < 9223372036854775808) (b : List UInt8) (p : Int) (hb : b.length ≤ 140737488355328) (hp : I64 p) (x : List UInt8) (q : Int) (hx : rtext most b p = .ok (x, q)) :
    SCall Try.prog 156 [.ptr 0 0 0, .v (.int .i64 most)] [some (.row ⟨2, 1, true, 251, fun _ => [bsl b, .v (.int .i64 p)]⟩)] fun r L => r = .ret (.slc 1 0 x.length) ∧ L = [some (.row ⟨2, 1, true, 251, fun _ => [bsl b, .v (.int .i64 q)]⟩), bytR x] := by
  unfold rtext at hx
  rcases hg : getText b p most with ⟨y, q', e⟩
  rw [hg] at hx
  simp only at hx
  split at hx
  · cases hx
  · rename_i he
    injection hx with hx
    injection hx with h1 h2
    obtain rfl : e = 0 := by omega
    subst h1 h2
    have hc := getText_own b p most hb hp hm y q' hg
    unfold bytR at *
    refine SCall.mk (fn := Try.f156) (by kernel_rfl) rfl (Nat.le_of_ble_eq_true (by kernel_rfl)) ?_
    refine goC ?_
    simp -dsimp +decide (disch := first | omega | simp +decide only [ownqb0]) only [ownqb6, ↓brun_b, envOf]
    refine Sem.draw' (by kernel_rfl) (.one 0 (.one 1 (.one 2 (.one 3 (.one 4 (.one 5 (.one 6 (.one 7 (.one 8 (.alt 9 (.one 10 (.one 11 (.one 12 (.one 13 (.one 14 (.one 15 (.one 16 .done))))))) .non)))))))))) [] (by kernel_rfl) (fun G ff hG hf => ?_)
    simp +decide only [ownqb7] at hG ⊢
    simp -dsimp +decide (disch := first | omega | simp +decide only [ownqb0]) only [ownqb6, ↓brun_b, Nat.reduceBEq, hG]
    refine OpSem.callw [] cal.f66 (hc) rfl rfl (by simp -dsimp +decide (disch := first | omega | simp +decide only [ownqb0]) only [ownqb8, ↓brun_b, Nat.reduceBEq, rho]) rfl (by simp -dsimp +decide (disch := first | omega | simp +decide only [ownqb0]) only [ownqb8, rho]) (dK rfl) ?_
    simp -dsimp +decide (disch := first | omega | simp +decide only [ownqb0]) only [ownqb6, ↓brun_b, Nat.reduceAdd, Nat.reduceBEq, rho]
    refine hf _ (Sem.go (k := 1000) ?_)
    simp +decide only [back_mk, backL_row, backL_nil, Nat.zero_add]
    simp -dsimp +decide (disch := first | omega | simp +decide only [ownqb0]) only [ownqb6, ↓brun_b, Nat.reduceAdd, Nat.reduceBEq]
    refine SQ.runL (rs := [.tmp 4]) [0, 1] _ _ rfl (And.intro rfl rfl) (by decide) rfl rfl ?_ ?_
    · simp -dsimp +decide (disch := first | omega | simp +decide only [ownqb0]) only [ownqb8, Nat.reduceAdd]
    · simp -dsimp +decide (disch := first | omega | simp +decide only [ownqb0]) only [ownqb8, ↓brun_b, Nat.reduceAdd]
def ownqb10 :=
  (aI (aI (aI ownqc1 ownqc2) (aI ownqc3 (aI @FC.c_length @brows_at))) (aI (aI @tab.a37 @tab.s145) (aI @tab.s2 (aI @tab.s37 @tab.u145))))
def ownqb11 :=
  (aI (aI (aI ownqc1 (aI ownqc2 ownqc3)) (aI (aI @FC.c_length @brows_at) (aI @bwk_a @eq_self.{1}))) (aI (aI (aI @forall_const.{1} @implies_true.{0}) (aI @implies_true.{1} @tab.a37)) (aI (aI @tab.s145 @tab.s2) (aI @tab.s37 @tab.u145))))
def ownqb12 :=
  (aI (aI ownqc3 (aI @tab.a37 @tab.s145)) (aI @tab.s2 (aI @tab.s37 @tab.u145)))
def ownqb13 :=
  (aI (aI (aI (aI ownqc1 ownqc2) (aI ownqc3 @FC.c_length)) (aI (aI @List.length_nil.{0} @brows_at) (aI @bwk_a @eq_self.{1}))) (aI (aI (aI @forall_const.{1} @implies_true.{0}) (aI @implies_true.{1} @tab.a37)) (aI (aI @tab.s145 @tab.s2) (aI @tab.s37 @tab.u145))))
def ownqb14 :=
  (aI (aI (aI ownqc1 ownqc2) (aI ownqc3 (aI @FC.c_length @brows_at))) (aI (aI @bs145 (aI @tab.a37 @tab.s145)) (aI @tab.s2 (aI @tab.s37 @tab.u145))))
theorem trail_own (b : List UInt8) (p : Int) (hb : b.length ≤ 140737488355328) (hp : I64 p) (xx : List Int) (qq : Int) (hT : rtrail b p = .ok (xx, qq)) :
    SCall Try.prog 158 [.ptr 0 0 0] [some (.row ⟨2, 1, true, 251, fun _ => [bsl b, .v (.int .i64 p)]⟩)] fun r L => r = .ret (.slc 1 0 xx.length) ∧ L = [some (.row ⟨2, 1, true, 251, fun _ => [bsl b, .v (.int .i64 qq)]⟩), some (.row ⟨1, xx.length, true, 3, lrow xx⟩)] := by
  obtain ⟨n1, n2⟩ := many_takes 64 b p hb hp
  rcases hg : rmany 64 b p with e | ⟨n, q0⟩
  · have hc := n2 _ hg
    have ht : rtrail b p = .error e := by unfold rtrail; rw [Rd.bind_err hg]
    exact absurd (ht.symm.trans hT) (fun h => nomatch h)
  · have hc := n1 n q0 hg
    have ht : rtrail b p = rlegs n b q0 := by unfold rtrail; rw [Rd.bind_ok hg]
    refine SCall.mk (fn := Try.f158) (by kernel_rfl) rfl (Nat.le_of_ble_eq_true (by kernel_rfl)) ?_
    refine goC ?_
    simp -dsimp +decide (disch := first | omega | simp +decide only [ownqb0]) only [ownqb10, ↓brun_b, envOf, Nat.reduceBEq]
    refine SemOps.callw [0] cal.f160 (hc) rfl rfl rfl (by simp -dsimp +decide (disch := first | omega | simp +decide only [ownqb0]) only [ownqb11, ↓brun_b]) rfl (by simp -dsimp +decide (disch := first | omega | simp +decide only [ownqb0]) only [ownqb11]) (dK rfl) ?_
    refine goK ?_
    simp -dsimp +decide (disch := first | omega | simp +decide only [ownqb0]) only [ownqb10, ↓brun_b]
    refine Sem.ghost 3 1 3 rfl ?_
    have hn64 : (n : Int) ≤ 64 := by
      unfold rmany at hg
      rcases hr : rnum b p with e | ⟨n', q'⟩
      · rw [hr] at hg; cases hg
      · rw [hr] at hg
        simp only at hg
        split at hg
        · cases hg
        · injection hg with hg
          injection hg with h1 h2
          omega
    have hq0 : I64 q0 := by
      unfold rmany at hg
      rcases hr : rnum b p with e | ⟨n', q'⟩
      · rw [hr] at hg; cases hg
      · have := rnum_at.i64 hb hr
        rw [hr] at hg
        simp only at hg
        split at hg
        · cases hg
        · injection hg with hg
          injection hg with h1 h2
          rw [← h2]; exact this
    refine Sem.loop (ι := {p : Nat × List Int × Int // p.1 ≤ n ∧ p.2.1.length = p.1 ∧ I64 p.2.2 ∧ LegAt n b q0 p.1 p.2.1 p.2.2}) (fun p => ⟨20, 1, [(0, .ptr 0 0 0), (3, .slc 1 0 p.1.2.1.length), (6, .v (.int .i64 (n : Int))), (7, .v (.int .i64 (p.1.1 : Int)))], [some (.row ⟨2, 1, true, 251, fun _ => [bsl b, .v (.int .i64 p.1.2.2)]⟩), some (.row ⟨1, p.1.2.1.length, true, 3, lrow p.1.2.1⟩)]⟩) (fun p => n - p.1.1) ⟨(0, [], q0), Nat.zero_le _, rfl, hq0, by unfold LegAt; rw [Nat.sub_zero]; rcases rlegs n b q0 with e | ⟨m, q'⟩ <;> rfl⟩ [0, 1] ?_ ?_
    · (refine Wk.ofC ?_; simp -dsimp +decide (disch := first | omega | simp +decide only [ownqb0]) only [ownqb13, ↓brun_b, Nat.reduceAdd, Nat.reduceBEq])
    · rintro ⟨⟨k, l, q⟩, hk, hl, hq, hat⟩
      simp only at hk hl hq hat
      obtain ⟨m1, m2⟩ := num_takes b q hb hq
      refine goC ?_
      simp -dsimp +decide (disch := first | omega | simp +decide only [ownqb0]) only [ownqb10, ↓brun_b, Nat.reduceAdd, Nat.reduceBEq]
      refine SCond.split (fun h1 => ?_) (fun h1 => ?_)
      · simp only [decide_eq_true_eq] at h1
        have hk' : k < n := by omega
        have hwk : IntKind.i64.wrap ((k : Int) + 1) = ((k + 1 : Nat) : Int) := by rw [wrap_i64 _ (by omega)]; rfl
        simp -dsimp +decide (disch := first | omega | simp +decide only [ownqb0]) only [ownqb10, ↓brun_b, Nat.reduceAdd, Nat.reduceBEq]
        rcases hg2 : rnum b q with e | ⟨x, q'⟩
        · have hd := m2 _ hg2
          have he := legAt_err hat hk' hg2
          exact absurd ((ht.trans he).symm.trans hT) (fun h => nomatch h)
        · have hd := m1 x q' hg2
          by_cases hx : 6 ≤ x
          · have he := legAt_big hat hk' hg2 hx
            have hd6 : decide ((6 : Int) ≤ (x : Int)) = true := decide_eq_true (by omega)
            exact absurd ((ht.trans he).symm.trans hT) (fun h => nomatch h)
          · have he := legAt_step hat hk' hg2 hx
            have hd6 : decide ((6 : Int) ≤ (x : Int)) = false := decide_eq_false (by omega)
            have hq' := rnum_at.i64 hb hg2
            refine SemOps.callw [0] cal.f153 (hd) rfl rfl rfl (by simp -dsimp +decide (disch := first | omega | simp +decide only [ownqb0]) only [ownqb11, ↓brun_b, Nat.reduceAdd]) rfl (by simp -dsimp +decide (disch := first | omega | simp +decide only [ownqb0]) only [ownqb11, Nat.reduceAdd]) (dK rfl) ?_
            refine goK ?_
            simp -dsimp +decide (disch := first | omega | simp +decide only [ownqb0]) only [ownqb14, ↓brun_b, Nat.reduceAdd, Nat.reduceBEq, hd6, sapp1_sl elN3, hwk]
            refine And.intro (by omega) ?_
            refine ⟨⟨(k + 1, l ++ [(x : Int)], q'), hk', by simp [hl], hq', he⟩, [0, 3], ?_, by show n - (k + 1) < n - k; omega⟩
            have e1 : (l ++ [(x : Int)]).length = l.length + 1 := by simp
            (refine Wk.ofC ?_; simp -dsimp +decide (disch := first | omega | simp +decide only [ownqb0]) only [ownqb11, ↓brun_b, Nat.reduceAdd, Nat.reduceBEq, e1])
            exact fun e he => app_lrow l x e he
      · simp only [decide_eq_false_iff_not] at h1
        obtain rfl : k = n := by omega
        have he := legAt_end hat
        have hxe := (ht.trans he).symm.trans hT
        injection hxe with hxe
        injection hxe with hx1 hx2
        subst hx1 hx2
        simp -dsimp +decide (disch := first | omega | simp +decide only [ownqb0]) only [ownqb10, ↓brun_b, reduceIte, Nat.reduceAdd, Nat.reduceBEq]
        refine SQ.runL (rs := [.tmp 2]) [0, 1] _ _ rfl (And.intro rfl rfl) (by decide) rfl rfl ?_ ?_
        · simp -dsimp +decide (disch := first | omega | simp +decide only [ownqb0]) only [ownqb11, Nat.reduceAdd]
        · simp -dsimp +decide (disch := first | omega | simp +decide only [ownqb0]) only [ownqb11, ↓brun_b, Nat.reduceAdd]
def ownqb15 :=
  (aI (aI (aI @IC.set_key (aI @IC.set_val @IC.set_ver)) (aI @cells_agg (aI @cells_slc @fieldPlaceOf_eq))) (aI (aI @sagg_some (aI @sfill1_some @sfill_cons)) (aI (aI @sfill_nil @tab.f149x0) (aI @tab.f149x1 @tab.f149x2))))
theorem b149o (key vwho : I16) (vn : Int) (s n : Nat) : sBuild Try.prog 149 [(0, .agg key.c), (1, .agg (.v (.int .i64 vn) :: vwho.c)), (2, .slc s 0 n)] = some ⟨.agg (IC.c ⟨key, .v (.int .i64 vn), vwho, .slc s 0 n⟩), {}, True⟩ := by
  have e : sBuild Try.prog 149 [(0, .agg key.c), (1, .agg (.v (.int .i64 vn) :: vwho.c)), (2, .slc s 0 n)] = sagg (sfill (fieldPlaceOf Try.prog 149) (IC.c ⟨I16.zero, .v (.int .i64 0), I16.zero, .v (.slice none 0 0)⟩) [(0, .agg key.c), (1, .agg (.v (.int .i64 vn) :: vwho.c)), (2, .slc s 0 n)]) := by
    rw [sBuild_eq, tab.z149, tab.l149]; rfl
  rw [e]
  simp (disch := simp [IC.c_length, I16.c_length]) only [ownqb15, Option.map_some]
def ownqc4 :=
  (aI (aI @tab.a147 (aI @tab.a149 @tab.a23)) (aI @tab.s147 (aI @tab.s149 @tab.s23)))
def ownqb16 :=
  (aI (aI (aI (aI ownqc1 ownqc2) (aI ownqc3 ownqc4)) (aI (aI @FC.c_length @al149) (aI @brows_at @tab.a35))) (aI (aI (aI @tab.a5 @tab.f149x0) (aI @tab.f149x1 @tab.f149x2)) (aI (aI @tab.s2 @tab.s35) (aI @tab.s5 @tab.u35))))
def ownqb17 :=
  (aI (aI (aI (aI ownqc1 ownqc2) (aI ownqc3 (aI ownqc4 @FC.c_length))) (aI (aI @brows_at @bwk_a) (aI @eq_self.{1} (aI @forall_const.{1} @implies_true.{0})))) (aI (aI (aI @implies_true.{1} @tab.a35) (aI @tab.a5 (aI @tab.f149x0 @tab.f149x1))) (aI (aI @tab.f149x2 @tab.s2) (aI @tab.s35 (aI @tab.s5 @tab.u35)))))
def ownqb18 :=
  (aI (aI (aI ownqc3 ownqc4) (aI @tab.a35 (aI @tab.a5 @tab.f149x0))) (aI (aI @tab.f149x1 (aI @tab.f149x2 @tab.s2)) (aI @tab.s35 (aI @tab.s5 @tab.u35))))
def ownqb19 :=
  (aI (aI (aI (aI ownqc1 ownqc2) (aI ownqc3 ownqc4)) (aI (aI @FC.c_length @I16.part) (aI @al23n (aI @brows_at @i16n_set)))) (aI (aI (aI @tab.a35 @tab.a5) (aI @tab.f149x0 @tab.f149x1)) (aI (aI @tab.f149x2 @tab.s2) (aI @tab.s35 (aI @tab.s5 @tab.u35)))))
def ownqb20 :=
  (aI (aI (aI (aI ownqc1 ownqc2) (aI ownqc3 ownqc4)) (aI (aI @FC.c_length @al147n) (aI @brows_at (aI @i16n_set @p147_len)))) (aI (aI (aI @p147_part @tab.a35) (aI @tab.a5 (aI @tab.f149x0 @tab.f149x1))) (aI (aI @tab.f149x2 @tab.s2) (aI @tab.s35 (aI @tab.s5 @tab.u35)))))
def ownqb21 :=
  (aI (aI (aI (aI ownqc1 ownqc2) (aI ownqc3 ownqc4)) (aI (aI @FC.c_length @I16.part) (aI @brows_at (aI @p147_len @p147_part)))) (aI (aI (aI @tab.a35 @tab.a5) (aI @tab.f149x0 @tab.f149x1)) (aI (aI @tab.f149x2 @tab.s2) (aI @tab.s35 (aI @tab.s5 @tab.u35)))))
def ownqb22 :=
  (aI (aI (aI (aI ownqc1 ownqc2) (aI ownqc3 ownqc4)) (aI (aI @FC.c_length @IC.part) (aI @IC.set_all (aI @b149o @brows_at)))) (aI (aI (aI @tab.a35 @tab.a5) (aI @tab.f149x0 @tab.f149x1)) (aI (aI @tab.f149x2 @tab.s2) (aI @tab.s35 (aI @tab.s5 @tab.u35)))))
def ownqb23 :=
  (aI (aI (aI (aI ownqc1 ownqc2) (aI ownqc3 ownqc4)) (aI (aI @FC.c_length @IC.part) (aI @IC.set_all @brows_at))) (aI (aI (aI @tab.a35 @tab.a5) (aI @tab.f149x0 @tab.f149x1)) (aI (aI @tab.f149x2 @tab.s2) (aI @tab.s35 (aI @tab.s5 @tab.u35)))))
def ownqb24 :=
  (aI (aI (aI (aI ownqc1 ownqc2) (aI ownqc3 (aI ownqc4 @FC.c_length))) (aI (aI @IC.ent (aI @IC.part @IC.set_all)) (aI @brows_at (aI @bwk_a @eq_self.{1})))) (aI (aI (aI @forall_const.{1} (aI @implies_true.{0} @implies_true.{1})) (aI @tab.a35 (aI @tab.a5 @tab.f149x0))) (aI (aI @tab.f149x1 (aI @tab.f149x2 @tab.s2)) (aI @tab.s35 (aI @tab.s5 @tab.u35)))))
theorem itemO (b : List UInt8) (p : Int) (hb : b.length ≤ 140737488355328) (hp : I64 p) (k : I16) (vn : Nat) (vw : I16) (tx : List UInt8) (q : Int) (hx : ritem b p = .ok ((k, (vn, vw), tx), q)) :
    SCall Try.prog 161 [.ptr 0 0 0] [some (.row ⟨2, 1, true, 251, fun _ => [bsl b, .v (.int .i64 p)]⟩)] fun r L => r = .ret (.agg (IC.c ⟨k, .v (.int .i64 (vn : Int)), vw, .slc 1 0 tx.length⟩)) ∧ L = [some (.row ⟨2, 1, true, 251, fun _ => [bsl b, .v (.int .i64 q)]⟩), bytR tx] := by
  obtain ⟨n1, n2⟩ := idI_takes b p hb hp
  rcases hg : ridI b p with e1 | ⟨x, q1⟩
  · exact absurd ((show ritem b p = .error e1 by unfold ritem; rw [Rd.bind_err hg]).symm.trans hx) (fun h => nomatch h)
  · have hc := n1 x q1 hg
    obtain ⟨m1, m2⟩ := ver_takes b q1 hb (ridI_at.i64 hb hg)
    rcases hg2 : rver b q1 with e2 | ⟨⟨vn', vw'⟩, q2⟩
    · exact absurd ((show ritem b p = .error e2 by unfold ritem; rw [Rd.bind_ok hg, Rd.bind_err hg2]).symm.trans hx) (fun h => nomatch h)
    · have hd := m1 _ q2 hg2
      simp only at hd
      rcases hg3 : rtext 64 b q2 with e3 | ⟨tx', q3⟩
      · exact absurd ((show ritem b p = .error e3 by unfold ritem; rw [Rd.bind_ok hg, Rd.bind_ok hg2, Rd.bind_err hg3]).symm.trans hx) (fun h => nomatch h)
      · have hr : ritem b p = .ok ((x, (vn', vw'), tx'), q3) := by unfold ritem; rw [Rd.bind_ok hg, Rd.bind_ok hg2, Rd.bind_ok hg3]; rfl
        have hxe := hr.symm.trans hx
        simp only [Except.ok.injEq, Prod.mk.injEq] at hxe
        obtain ⟨⟨rfl, ⟨rfl, rfl⟩, rfl⟩, rfl⟩ := hxe
        have ht := text_own 64 (by decide) b q2 hb (rver_at.i64 hb hg2) tx' q3 hg3
        have g1 := p147_flat vw' vn'
        have g2 := p147_one vw' vn'
        have g3 := p147_len vw' (.v (.int .i64 (vn' : Int)))
        have g4 := p147_len I16.zero (.v (.int .i64 0))
        unfold bytR at *
        refine SCall.mk (fn := Try.f161) (by kernel_rfl) rfl (Nat.le_of_ble_eq_true (by kernel_rfl)) ?_
        refine goC ?_
        simp -dsimp +decide (disch := first | omega | simp +decide only [ownqb0]) only [ownqb16, ↓brun_b, envOf, Nat.reduceAdd, Nat.reduceBEq]
        refine SemOps.callw [0] cal.f155 (hc) rfl rfl rfl (by simp -dsimp +decide (disch := first | omega | simp +decide only [ownqb0]) only [ownqb17, ↓brun_b, Nat.reduceAdd]) rfl (by simp -dsimp +decide (disch := first | omega | simp +decide only [ownqb0]) only [ownqb17, Nat.reduceAdd]) (dK rfl) ?_
        refine goK ?_
        simp -dsimp +decide (disch := first | omega | simp +decide only [ownqb0]) only [ownqb19, ↓brun_b, Nat.reduceAdd, Nat.reduceBEq]
        refine SemOps.callw [0] cal.f162 (hd) rfl rfl rfl (by simp -dsimp +decide (disch := first | omega | simp +decide only [ownqb0]) only [ownqb17, ↓brun_b, Nat.reduceAdd]) rfl (by simp -dsimp +decide (disch := first | omega | simp +decide only [ownqb0]) only [ownqb17, Nat.reduceAdd]) (dK rfl) ?_
        refine goK ?_
        simp -dsimp +decide (disch := first | omega | simp +decide only [ownqb0]) only [ownqb20, ↓brun_b, Nat.reduceAdd, Nat.reduceBEq]
        refine Sem.draw' (by kernel_rfl) (.one 0 (.one 1 (.one 2 (.alt 3 (.one 4 (.alt 5 .done .non)) .non)))) [0, 1] (by kernel_rfl) (fun G ff hG hf => ?_)
        simp +decide only [ownqb7, Nat.reduceAdd] at hG ⊢
        simp -dsimp +decide (disch := first | omega | simp +decide only [ownqb0]) only [ownqb21, ↓brun_b, Nat.reduceAdd, Nat.reduceBEq, hG]
        (repeat' refine And.intro ?_ ?_)
        all_goals
          refine OpSem.callw [0] cal.f156 (ht) rfl rfl (by simp -dsimp +decide (disch := first | omega | simp +decide only [ownqb0]) only [ownqb17, ↓brun_b, Nat.reduceAdd]) rfl (by simp -dsimp +decide (disch := first | omega | simp +decide only [ownqb0]) only [ownqb17, Nat.reduceAdd]) (dK rfl) ?_
          simp -dsimp +decide (disch := first | omega | simp +decide only [ownqb0]) only [ownqb22, ↓brun_b, Nat.reduceAdd, Nat.reduceBEq, rho]
          refine hf _ (Sem.go (k := 1000) ?_)
          simp +decide only [back_mk, backL_in, backL_row, backL_nil, Nat.zero_add, Nat.reduceAdd]
          simp -dsimp +decide (disch := first | omega | simp +decide only [ownqb0]) only [ownqb23]
          refine SQ.runL (rs := [.cell 2 149]) [0, 4] _ _ rfl (And.intro rfl rfl) (by decide) rfl rfl ?_ ?_
          · simp -dsimp +decide (disch := first | omega | simp +decide only [ownqb0]) only [ownqb17, Nat.reduceAdd]
          · simp -dsimp +decide (disch := first | omega | simp +decide only [ownqb0]) only [ownqb24, ↓brun_b, Nat.reduceAdd, Nat.reduceBEq]
end Go.Proofs
namespace Go.Proofs
open Go Go.SL
set_option maxRecDepth 100000
def OR (F : Frm) : SE → List (Option SK) → Prop := fun r L => r = .ret (.tup [.agg (ofc F 2 3 4 5).c, .v (.int .i64 0)]) ∧ L = [none, none, trR F, isR F, bytR F.val, bytR F.tx]
def orL (F : Frm) : List (Option SK) := [none, none, trR F, isR F, bytR F.val, bytR F.tx]
theorem leO_gh {fz : Nat → Option SB} {ρ : Nat → Nat} {L : List (Option SK)} {i z n : Nat} {ty : TypeId} {el el' : Nat → List SV} (hg : getL L i = some (.row ⟨z, 0, true, ty, el⟩)) (hn : n = 0) : SK.leO fz ρ (getL L i) (.row ⟨z, n, true, ty, el'⟩) := by
  subst hn
  rw [hg]
  exact ⟨rfl, rfl, rfl, fun h => h, fun e he => absurd he (Nat.not_lt_zero e)⟩
theorem leO_fl {fz : Nat → Option SB} {ρ : Nat → Nat} {L : List (Option SK)} {i z n n' : Nat} {ty : TypeId} {el el' : Nat → List SV} (hg : getL L i = some (.row ⟨z, n', true, ty, el'⟩)) (hn : n = n') (he : ∀ e, el e = el' e) (hf : ∀ e, SV.flatL (el e) = true) : SK.leO fz ρ (getL L i) (.row ⟨z, n, true, ty, el⟩) := by
  subst hn
  rw [hg]
  refine ⟨rfl, rfl, rfl, fun h => h, fun e _ => ?_⟩
  show EntL fz ρ (el e) (el' e)
  rw [← he e]
  exact EntL.self (hf e)
theorem orL_wk {fz : Nat → Option SB} {ρ : Nat → Nat} {L : List (Option SK)} (F : Frm) (i j k m : Nat) (h1 : SK.leO fz ρ (getL L i) (.row ⟨1, F.tr.length, true, 3, lrow F.tr⟩)) (h2 : SK.leO fz ρ (getL L j) (.row ⟨16, F.is.length, true, 23, fun e => (idrs F.is).getD e []⟩))
    (h3 : SK.leO fz ρ (getL L k) (.row ⟨1, F.val.length, true, 5, brow F.val⟩)) (h4 : SK.leO fz ρ (getL L m) (.row ⟨1, F.tx.length, true, 5, brow F.tx⟩)) : wkL fz ρ L [0, 1, i, j, k, m] (orL F) := And.intro h1 (And.intro h2 (And.intro h3 (And.intro h4 trivial)))
theorem map_ok {α β : Type} {f : α → β} {r : Rd α} {b : List UInt8} {p q : Int} {y : β} (h : Rd.map f r b p = .ok (y, q)) : ∃ x, r b p = .ok (x, q) ∧ f x = y := by
  unfold Rd.map at h
  rcases g : r b p with e | ⟨x, q1⟩
  · rw [g] at h; cases h
  · rw [g] at h
    injection h with h
    injection h with h1 h2
    exact ⟨x, by rw [h2], h1⟩
theorem both_ok {α β : Type} {r : Rd α} {k : Rd β} {b : List UInt8} {p q : Int} {x : α × β} (h : Rd.both r k b p = .ok (x, q)) : ∃ q1, r b p = .ok (x.1, q1) ∧ k b q1 = .ok (x.2, q) := by
  unfold Rd.both at h
  rcases g : r b p with e | ⟨y, q1⟩
  · rw [g] at h; cases h
  · rw [g] at h
    rcases g2 : k b q1 with e | ⟨z, q2⟩
    · simp only [g2] at h; cases h
    · simp only [g2] at h
      injection h with h
      injection h with h1 h2
      subst h1 h2
      exact ⟨q1, rfl, g2⟩
theorem rsmall_ok {lo hi : Nat} {e : Int} {b : List UInt8} {p q : Int} {x : Nat} (h : rsmall lo hi e b p = .ok (x, q)) : ∃ n, rnum b p = .ok (n, q) ∧ min n 99 = x ∧ ¬ (min n 99 < lo ∨ hi < min n 99) := by
  unfold rsmall at h
  rcases g : rnum b p with e | ⟨n, q1⟩
  · rw [Rd.bind_err g] at h; cases h
  · rw [Rd.bind_ok g] at h
    split at h
    · cases h
    · rename_i hs
      injection h with h
      injection h with h1 h2
      exact ⟨n, by rw [h2], h1, hs⟩
def r251 (b : List UInt8) (p : Int) : Option SK := some (.row ⟨2, 1, true, 251, fun _ => [bsl b, .v (.int .i64 p)]⟩)
theorem rcall {f : FuncId} {more : List SV} {b : List UInt8} {p : Int} {x : SV} {L1 : List (Option SK)} (hcal : Cal Try.prog f) (hc : SCall Try.prog f (.ptr 0 0 0 :: more) [r251 b p] fun r L => r = .ret x ∧ L = L1)
    {Q : SX → St → Prop} {K : List It} {s : St} {all rest : List Oper} {op : Oper} {fo : Operand} {argos : Array Operand} {ats : Array TypeId} (hop : op.op = .call ⟨.value fo, argos, ats⟩) (hg : op.guard = none) (hfv : seval s.env fo = .fn (.func f) [] [])
    (hargs : argos.toList.map (seval s.env) = .ptr 2 0 0 :: more) (hm : SV.flatL more = true) (hL : getL s.L 2 = r251 b p) (hd : dstB s.sz op.dst = true)
    (next : SemOps Try.prog Q all rest K ((s.after [2] [r251 b p] L1).put op.dst (x.ren (rho [2] s.L.length)))) : SemOps Try.prog Q all (op :: rest) K s := by
  refine SemOps.callw [2] hcal hc hop hg hfv ?_ rfl ?_ (dOk hd) next
  · rw [hargs]
    exact ⟨_, _, rfl, rfl, EntL.self hm⟩
  · refine And.intro ?_ trivial
    rw [hL]
    refine ⟨rfl, rfl, rfl, fun h => h, fun e _ => EntL.self ?_⟩
    simp only [flatL_cons, flatL_nil, bsl_flat, flat_v, Bool.and_self]
theorem dec_headO (b : List UInt8) (hb : b.length ≤ 140737488355328) (k : Nat) (q : Int) (h0 : rnum b 0 = .ok (k, q)) (m : Int) (hm : ((min k 99 : Nat) : Int) = m) {R : SE → List (Option SK) → Prop}
    (tail : ∀ c, restD Try.f117 = some c → Go.SL.Sem Try.prog (QD Try.prog Try.f117 152 [.ptr 0 0 0, .ptr 1 0 0] R) [.code c] ⟨206, 2, [(0, bsl b), (2, .ptr 0 0 0), (3, .ptr 1 0 0), (4, .ptr 2 0 0)], [some (.row ⟨95, 1, true, 151, fun _ => FC.c { zF with kind := .v (.int .i64 m), tr := .slc 3 0 0, is := .slc 4 0 0, val := .slc 5 0 0, tx := .slc 6 0 0 }⟩), some (.row ⟨1, 1, true, 37, fun _ => [.v (.int .i64 0)]⟩), some (.row ⟨2, 1, true, 251, fun _ => [bsl b, .v (.int .i64 q)]⟩), some (.row ⟨1, 0, true, 3, fun _ => []⟩), some (.row ⟨16, 0, true, 23, fun _ => []⟩), some (.row ⟨1, 0, true, 5, fun _ => []⟩), some (.row ⟨1, 0, true, 5, fun _ => []⟩)]⟩) : SCall Try.prog 117 [bsl b] [] R := by
  refine dec_head b hb k q h0 m hm fun c hc => ?_
  refine Lent.sem (Lent.ghostB 0 56 1 3 rfl (FC.get_trO _)) ?_
  refine Lent.sem (Lent.ghostB 0 57 16 23 rfl (by rw [FC.put_trO]; exact FC.get_is _)) ?_
  refine Lent.sem (Lent.ghostB 0 91 1 5 rfl (by rw [FC.put_trO, FC.put_is]; exact FC.get_val _)) ?_
  refine Lent.sem (Lent.ghostB 0 94 1 5 rfl (by rw [FC.put_trO, FC.put_is, FC.put_val]; exact FC.get_tx _)) ?_
  have ht := tail c hc
  simp only [FC.put_trO, FC.put_is, FC.put_val, FC.put_tx]
  exact ht
def ownqc5 :=
  (aI (aI (aI (aI @tab.a151 @tab.a79) (aI @tab.f151x0 (aI @tab.f151x1 @tab.f151x10))) (aI (aI @tab.f151x11 (aI @tab.f151x12 @tab.f151x13)) (aI @tab.f151x2 (aI @tab.f151x3 @tab.f151x4)))) (aI (aI (aI @tab.f151x5 @tab.f151x6) (aI @tab.f151x7 (aI @tab.f151x8 @tab.f151x9))) (aI (aI @tab.s135 (aI @tab.s144 @tab.s151)) (aI @tab.s4 (aI @tab.s79 @tab.u79)))))
def ownqb25 :=
  (aI (aI (aI (aI ownqc1 ownqc2) (aI ownqc3 (aI ownqc4 ownqc5))) (aI (aI @FC.c_length @tab.a35) (aI @tab.a37 (aI @tab.a5 @tab.f149x0)))) (aI (aI (aI @tab.f149x1 @tab.f149x2) (aI @tab.f251x0 (aI @tab.f251x1 @tab.s145))) (aI (aI @tab.s2 (aI @tab.s35 @tab.s37)) (aI @tab.s5 (aI @tab.u145 @tab.u35)))))
theorem sq_decO {s : St} {c : List SV} {F : Frm} (i j k m : Nat) (hb : s.base = 2) (h0 : getL s.L 0 = some (.row ⟨95, 1, true, 151, fun _ => c⟩)) (hc : c.length = 95) (h1 : getL s.L 1 = some (.row ⟨1, 1, true, 37, fun _ => [.v (.int .i64 0)]⟩))
    (ha : lookup s.env 2 = .ptr 0 0 0) (hx : lookup s.env 3 = .ptr 1 0 0) (hn : [0, 1, i, j, k, m].Nodup) (hE : EntL (fzOf s.L [0, 1, i, j, k, m] (orL F)) (rho [0, 1, i, j, k, m] s.L.length) (ofc F 2 3 4 5).c c)
    (hW : wkL (fzOf s.L [0, 1, i, j, k, m] (orL F)) (rho [0, 1, i, j, k, m] s.L.length) s.L [0, 1, i, j, k, m] (orL F)) : SQ Try.prog Try.f117 (OR F) .ret s := by
  refine SQ.runL (rs := [.cell 2 151, .cell 3 37]) [0, 1, i, j, k, m] (.tup [.agg (ofc F 2 3 4 5).c, .v (.int .i64 0)]) (orL F) rfl (And.intro rfl rfl) hn (by rw [hb]; rfl) (by rw [hb]; rfl) hW ?_
  simp -dsimp +decide (disch := first | omega | simp +decide only [ownqb0]) only [ownqb25, ↓brun_b, ha, hx, h0, h1, part95 c hc]
  exact ⟨_, rfl, _, _, rfl, ⟨_, rfl, hE⟩, _, _, rfl, rfl, rfl⟩
theorem dec_retO {s : St} {c : List SV} {F : Frm} (i j k m : Nat) (hb : s.base = 2) (h0 : getL s.L 0 = some (.row ⟨95, 1, true, 151, fun _ => c⟩)) (hc : c.length = 95) (h1 : getL s.L 1 = some (.row ⟨1, 1, true, 37, fun _ => [.v (.int .i64 0)]⟩))
    (ha : lookup s.env 2 = .ptr 0 0 0) (hx : lookup s.env 3 = .ptr 1 0 0) (hn : [0, 1, i, j, k, m].Nodup) (hE : EntL (fzOf s.L [0, 1, i, j, k, m] (orL F)) (rho [0, 1, i, j, k, m] s.L.length) (ofc F 2 3 4 5).c c)
    (hW : wkL (fzOf s.L [0, 1, i, j, k, m] (orL F)) (rho [0, 1, i, j, k, m] s.L.length) s.L [0, 1, i, j, k, m] (orL F)) : QD Try.prog Try.f117 152 [.ptr 0 0 0, .ptr 1 0 0] (OR F) .ret s := by
  have hL : mergeL (rho [0, 1] s.L.length) s.L [0, 1] [some (.row ⟨95, 1, false, 151, fun _ => List.replicate 95 .any⟩), some (.row ⟨1, 1, false, 37, fun _ => [.any]⟩)] [none, none] = s.L := by
    rw [mergeL_row, mergeL_row, mergeL_done, List.map_nil, List.append_nil]
  refine ⟨[0, 1], [.ptr 0 0 0, .ptr 1 0 0], [some (.row ⟨95, 1, false, 151, fun _ => List.replicate 95 .any⟩), some (.row ⟨1, 1, false, 37, fun _ => [.any]⟩)], none, [none, none], EntL.eq rfl, by decide, ?_, trivial, catch_ret _ _, ?_⟩
  · refine ⟨?_, ?_, trivial⟩
    · rw [h0]
      exact ⟨rfl, rfl, rfl, fun _ => rfl, fun _ _ => entL_any 95 c hc⟩
    · rw [h1]
      exact ⟨rfl, rfl, rfl, fun _ => rfl, fun _ _ => entL_any 1 _ rfl⟩
  · have h2 : s.after [0, 1] [some (.row ⟨95, 1, false, 151, fun _ => List.replicate 95 .any⟩), some (.row ⟨1, 1, false, 37, fun _ => [.any]⟩)] [none, none] = s := by
      unfold St.after
      rw [hL]
    rw [h2]
    exact sq_decO i j k m hb h0 hc h1 ha hx hn hE hW
end Go.Proofs
namespace Go.Proofs
open Go Go.SL
set_option maxRecDepth 100000
set_option maxHeartbeats 4000000 in
theorem decO_1 (b : List UInt8) (hb : b.length ≤ 140737488355328) (q : Int) (h0 : rnum b 0 = .ok (1, q)) (F : Frm) (qe : Int) (hB : rbody 1 b q = .ok (F, qe)) (hlt : ¬ qe < (b.length : Int)) : SCall Try.prog 117 [bsl b] [] (OR F) := by
  have hq : I64 q := rnum_at.i64 hb h0
  obtain ⟨⟨⟨x1a, x1b⟩, ⟨⟨x2a, x2b⟩, x3a⟩⟩, hr, rfl⟩ := map_ok hB
  obtain ⟨q1, g1, hr⟩ := both_ok hr
  have hq1 := rpair_at.i64 hb g1
  obtain ⟨q2, g2, hr⟩ := both_ok hr
  have hq2 := rpair_at.i64 hb g2
  refine dec_headO b hb 1 q h0 1 rfl fun c hc => ?_
  cases hc
  refine goC ?_
  simp -dsimp +decide (disch := first | omega | simp +decide only [ownqb0]) only [ownqb25, ↓brun_b, Nat.reduceAdd, Nat.reduceBEq]
  refine rcall cal.f154 ((pair_takes b q hb hq).1 _ _ g1) rfl rfl rfl rfl rfl rfl rfl ?_
  refine goK ?_
  simp -dsimp +decide (disch := first | omega | simp +decide only [ownqb0]) only [ownqb25, ↓brun_b, Nat.reduceAdd, Nat.reduceBEq, r251]
  refine rcall cal.f154 ((pair_takes b q1 hb hq1).1 _ _ g2) rfl rfl rfl rfl rfl rfl rfl ?_
  refine goK ?_
  simp -dsimp +decide (disch := first | omega | simp +decide only [ownqb0]) only [ownqb25, ↓brun_b, Nat.reduceAdd, Nat.reduceBEq, r251]
  refine rcall cal.f155 ((idI_takes b q2 hb hq2).1 _ _ hr) rfl rfl rfl rfl rfl rfl rfl ?_
  refine goK ?_
  have hd : decide (qe < (b.length : Int)) = false := decide_eq_false hlt
  simp -dsimp +decide (disch := first | omega | simp +decide only [ownqb0]) only [ownqb25, ↓brun_b, Nat.reduceAdd, Nat.reduceBEq, r251, hd]
  refine dec_retO 3 4 5 6 rfl rfl (FC.c_length _) rfl rfl rfl (by decide) ?_ ?_
  · refine FC.entX _ _ rfl rfl rfl rfl rfl ?_ ?_ ?_ ?_ ?_ ?_ ?_ ?_ ?_ ?_ ?_ ?_ ?_ ?_ ?_ <;> rfl
  · exact orL_wk _ _ _ _ _ (leO_gh rfl rfl) (leO_gh rfl rfl) (leO_gh rfl rfl) (leO_gh rfl rfl)
set_option maxHeartbeats 4000000 in
theorem decO_3 (b : List UInt8) (hb : b.length ≤ 140737488355328) (q : Int) (h0 : rnum b 0 = .ok (3, q)) (F : Frm) (qe : Int) (hB : rbody 3 b q = .ok (F, qe)) (hlt : ¬ qe < (b.length : Int)) : SCall Try.prog 117 [bsl b] [] (OR F) := by
  have hq : I64 q := rnum_at.i64 hb h0
  obtain ⟨⟨⟨x1a, x1b⟩, ⟨⟨x2a, x2b⟩, x3a⟩⟩, hr, rfl⟩ := map_ok hB
  obtain ⟨q1, g1, hr⟩ := both_ok hr
  have hq1 := rpair_at.i64 hb g1
  obtain ⟨q2, g2, hr⟩ := both_ok hr
  have hq2 := rpair_at.i64 hb g2
  refine dec_headO b hb 3 q h0 3 rfl fun c hc => ?_
  cases hc
  refine goC ?_
  simp -dsimp +decide (disch := first | omega | simp +decide only [ownqb0]) only [ownqb25, ↓brun_b, Nat.reduceAdd, Nat.reduceBEq]
  refine rcall cal.f154 ((pair_takes b q hb hq).1 _ _ g1) rfl rfl rfl rfl rfl rfl rfl ?_
  refine goK ?_
  simp -dsimp +decide (disch := first | omega | simp +decide only [ownqb0]) only [ownqb25, ↓brun_b, Nat.reduceAdd, Nat.reduceBEq, r251]
  refine rcall cal.f154 ((pair_takes b q1 hb hq1).1 _ _ g2) rfl rfl rfl rfl rfl rfl rfl ?_
  refine goK ?_
  simp -dsimp +decide (disch := first | omega | simp +decide only [ownqb0]) only [ownqb25, ↓brun_b, Nat.reduceAdd, Nat.reduceBEq, r251]
  refine rcall cal.f153 ((num_takes b q2 hb hq2).1 _ _ hr) rfl rfl rfl rfl rfl rfl rfl ?_
  refine goK ?_
  have hd : decide (qe < (b.length : Int)) = false := decide_eq_false hlt
  simp -dsimp +decide (disch := first | omega | simp +decide only [ownqb0]) only [ownqb25, ↓brun_b, Nat.reduceAdd, Nat.reduceBEq, r251, hd]
  refine dec_retO 3 4 5 6 rfl rfl (FC.c_length _) rfl rfl rfl (by decide) ?_ ?_
  · refine FC.entX _ _ rfl rfl rfl rfl rfl ?_ ?_ ?_ ?_ ?_ ?_ ?_ ?_ ?_ ?_ ?_ ?_ ?_ ?_ ?_ <;> rfl
  · exact orL_wk _ _ _ _ _ (leO_gh rfl rfl) (leO_gh rfl rfl) (leO_gh rfl rfl) (leO_gh rfl rfl)
set_option maxHeartbeats 4000000 in
theorem decO_5 (b : List UInt8) (hb : b.length ≤ 140737488355328) (q : Int) (h0 : rnum b 0 = .ok (5, q)) (F : Frm) (qe : Int) (hB : rbody 5 b q = .ok (F, qe)) (hlt : ¬ qe < (b.length : Int)) : SCall Try.prog 117 [bsl b] [] (OR F) := by
  have hq : I64 q := rnum_at.i64 hb h0
  obtain ⟨⟨x1a, x1b⟩, hr, rfl⟩ := map_ok hB
  refine dec_headO b hb 5 q h0 5 rfl fun c hc => ?_
  cases hc
  refine goC ?_
  simp -dsimp +decide (disch := first | omega | simp +decide only [ownqb0]) only [ownqb25, ↓brun_b, Nat.reduceAdd, Nat.reduceBEq]
  refine rcall cal.f157 ((path_takes b q hb hq).1 _ _ hr) rfl rfl rfl rfl rfl rfl rfl ?_
  refine goK ?_
  have hd : decide (qe < (b.length : Int)) = false := decide_eq_false hlt
  simp -dsimp +decide (disch := first | omega | simp +decide only [ownqb0]) only [ownqb25, ↓brun_b, Nat.reduceAdd, Nat.reduceBEq, r251, hd]
  refine dec_retO 3 4 5 6 rfl rfl (FC.c_length _) rfl rfl rfl (by decide) ?_ ?_
  · refine FC.entX _ _ rfl rfl rfl rfl rfl ?_ ?_ ?_ ?_ ?_ ?_ ?_ ?_ ?_ ?_ ?_ ?_ ?_ ?_ ?_ <;> rfl
  · exact orL_wk _ _ _ _ _ (leO_gh rfl rfl) (leO_gh rfl rfl) (leO_gh rfl rfl) (leO_gh rfl rfl)
set_option maxHeartbeats 4000000 in
theorem decO_6 (b : List UInt8) (hb : b.length ≤ 140737488355328) (q : Int) (h0 : rnum b 0 = .ok (6, q)) (F : Frm) (qe : Int) (hB : rbody 6 b q = .ok (F, qe)) (hlt : ¬ qe < (b.length : Int)) : SCall Try.prog 117 [bsl b] [] (OR F) := by
  have hq : I64 q := rnum_at.i64 hb h0
  obtain ⟨⟨⟨x1a, x1b⟩, x2a⟩, hr, rfl⟩ := map_ok hB
  obtain ⟨q1, g1, hr⟩ := both_ok hr
  have hq1 := rpath_at.i64 hb g1
  refine dec_headO b hb 6 q h0 6 rfl fun c hc => ?_
  cases hc
  refine goC ?_
  simp -dsimp +decide (disch := first | omega | simp +decide only [ownqb0]) only [ownqb25, ↓brun_b, Nat.reduceAdd, Nat.reduceBEq]
  refine rcall cal.f157 ((path_takes b q hb hq).1 _ _ g1) rfl rfl rfl rfl rfl rfl rfl ?_
  refine goK ?_
  simp -dsimp +decide (disch := first | omega | simp +decide only [ownqb0]) only [ownqb25, ↓brun_b, Nat.reduceAdd, Nat.reduceBEq, r251]
  refine rcall cal.f159 ((flag_takes b q1 hb hq1).1 _ _ hr) rfl rfl rfl rfl rfl rfl rfl ?_
  refine goK ?_
  have hd : decide (qe < (b.length : Int)) = false := decide_eq_false hlt
  simp -dsimp +decide (disch := first | omega | simp +decide only [ownqb0]) only [ownqb25, ↓brun_b, Nat.reduceAdd, Nat.reduceBEq, r251, hd]
  refine dec_retO 3 4 5 6 rfl rfl (FC.c_length _) rfl rfl rfl (by decide) ?_ ?_
  · refine FC.entX _ _ rfl rfl rfl rfl rfl ?_ ?_ ?_ ?_ ?_ ?_ ?_ ?_ ?_ ?_ ?_ ?_ ?_ ?_ ?_ <;> rfl
  · exact orL_wk _ _ _ _ _ (leO_gh rfl rfl) (leO_gh rfl rfl) (leO_gh rfl rfl) (leO_gh rfl rfl)
set_option maxHeartbeats 4000000 in
theorem decO_9 (b : List UInt8) (hb : b.length ≤ 140737488355328) (q : Int) (h0 : rnum b 0 = .ok (9, q)) (F : Frm) (qe : Int) (hB : rbody 9 b q = .ok (F, qe)) (hlt : ¬ qe < (b.length : Int)) : SCall Try.prog 117 [bsl b] [] (OR F) := by
  have hq : I64 q := rnum_at.i64 hb h0
  obtain ⟨⟨x1a, x2a⟩, hr, rfl⟩ := map_ok hB
  obtain ⟨q1, g1, hr⟩ := both_ok hr
  have hq1 := ridI_at.i64 hb g1
  refine dec_headO b hb 9 q h0 9 rfl fun c hc => ?_
  cases hc
  refine goC ?_
  simp -dsimp +decide (disch := first | omega | simp +decide only [ownqb0]) only [ownqb25, ↓brun_b, Nat.reduceAdd, Nat.reduceBEq]
  refine rcall cal.f155 ((idI_takes b q hb hq).1 _ _ g1) rfl rfl rfl rfl rfl rfl rfl ?_
  refine goK ?_
  simp -dsimp +decide (disch := first | omega | simp +decide only [ownqb0]) only [ownqb25, ↓brun_b, Nat.reduceAdd, Nat.reduceBEq, r251]
  refine rcall cal.f153 ((num_takes b q1 hb hq1).1 _ _ hr) rfl rfl rfl rfl rfl rfl rfl ?_
  refine goK ?_
  have hd : decide (qe < (b.length : Int)) = false := decide_eq_false hlt
  simp -dsimp +decide (disch := first | omega | simp +decide only [ownqb0]) only [ownqb25, ↓brun_b, Nat.reduceAdd, Nat.reduceBEq, r251, hd]
  refine dec_retO 3 4 5 6 rfl rfl (FC.c_length _) rfl rfl rfl (by decide) ?_ ?_
  · refine FC.entX _ _ rfl rfl rfl rfl rfl ?_ ?_ ?_ ?_ ?_ ?_ ?_ ?_ ?_ ?_ ?_ ?_ ?_ ?_ ?_ <;> rfl
  · exact orL_wk _ _ _ _ _ (leO_gh rfl rfl) (leO_gh rfl rfl) (leO_gh rfl rfl) (leO_gh rfl rfl)
set_option maxHeartbeats 4000000 in
theorem decO_12 (b : List UInt8) (hb : b.length ≤ 140737488355328) (q : Int) (h0 : rnum b 0 = .ok (12, q)) (F : Frm) (qe : Int) (hB : rbody 12 b q = .ok (F, qe)) (hlt : ¬ qe < (b.length : Int)) : SCall Try.prog 117 [bsl b] [] (OR F) := by
  have hq : I64 q := rnum_at.i64 hb h0
  obtain ⟨⟨⟨x1a, x1b⟩, ⟨x2a, ⟨x3a, ⟨x4a, x4b⟩⟩⟩⟩, hr, rfl⟩ := map_ok hB
  obtain ⟨q1, g1, hr⟩ := both_ok hr
  have hq1 := rpath_at.i64 hb g1
  obtain ⟨q2, g2, hr⟩ := both_ok hr
  have hq2 := rflag_at.i64 hb g2
  obtain ⟨q3, g3, hr⟩ := both_ok hr
  have hq3 := ridI_at.i64 hb g3
  refine dec_headO b hb 12 q h0 12 rfl fun c hc => ?_
  cases hc
  refine goC ?_
  simp -dsimp +decide (disch := first | omega | simp +decide only [ownqb0]) only [ownqb25, ↓brun_b, Nat.reduceAdd, Nat.reduceBEq]
  refine rcall cal.f157 ((path_takes b q hb hq).1 _ _ g1) rfl rfl rfl rfl rfl rfl rfl ?_
  refine goK ?_
  simp -dsimp +decide (disch := first | omega | simp +decide only [ownqb0]) only [ownqb25, ↓brun_b, Nat.reduceAdd, Nat.reduceBEq, r251]
  refine rcall cal.f159 ((flag_takes b q1 hb hq1).1 _ _ g2) rfl rfl rfl rfl rfl rfl rfl ?_
  refine goK ?_
  simp -dsimp +decide (disch := first | omega | simp +decide only [ownqb0]) only [ownqb25, ↓brun_b, Nat.reduceAdd, Nat.reduceBEq, r251]
  refine rcall cal.f155 ((idI_takes b q2 hb hq2).1 _ _ g3) rfl rfl rfl rfl rfl rfl rfl ?_
  refine goK ?_
  simp -dsimp +decide (disch := first | omega | simp +decide only [ownqb0]) only [ownqb25, ↓brun_b, Nat.reduceAdd, Nat.reduceBEq, r251]
  refine rcall cal.f162 ((ver_takes b q3 hb hq3).1 _ _ hr) rfl rfl rfl rfl rfl rfl rfl ?_
  refine goK ?_
  have hd : decide (qe < (b.length : Int)) = false := decide_eq_false hlt
  simp -dsimp +decide (disch := first | omega | simp +decide only [ownqb0]) only [ownqb25, ↓brun_b, Nat.reduceAdd, Nat.reduceBEq, r251, hd]
  refine dec_retO 3 4 5 6 rfl rfl (FC.c_length _) rfl rfl rfl (by decide) ?_ ?_
  · refine FC.entX _ _ rfl rfl rfl rfl rfl ?_ ?_ ?_ ?_ ?_ ?_ ?_ ?_ ?_ ?_ ?_ ?_ ?_ ?_ ?_ <;> rfl
  · exact orL_wk _ _ _ _ _ (leO_gh rfl rfl) (leO_gh rfl rfl) (leO_gh rfl rfl) (leO_gh rfl rfl)
end Go.Proofs
namespace Go.Proofs
open Go Go.SL
set_option maxRecDepth 100000
set_option maxHeartbeats 4000000 in
theorem decO_2 (b : List UInt8) (hb : b.length ≤ 140737488355328) (q : Int) (h0 : rnum b 0 = .ok (2, q)) (F : Frm) (qe : Int) (hB : rbody 2 b q = .ok (F, qe)) (hlt : ¬ qe < (b.length : Int)) : SCall Try.prog 117 [bsl b] [] (OR F) := by
  have hq : I64 q := rnum_at.i64 hb h0
  obtain ⟨⟨⟨x1a, x1b⟩, ⟨⟨x2a, x2b⟩, ⟨x3a, x4a⟩⟩⟩, hr, rfl⟩ := map_ok hB
  obtain ⟨q1, g1, hr⟩ := both_ok hr
  have hq1 := rpair_at.i64 hb g1
  obtain ⟨q2, g2, hr⟩ := both_ok hr
  have hq2 := rpair_at.i64 hb g2
  obtain ⟨q3, g3, hr⟩ := both_ok hr
  have hq3 := rnum_at.i64 hb g3
  refine dec_headO b hb 2 q h0 2 rfl fun c hc => ?_
  cases hc
  refine goC ?_
  simp -dsimp +decide (disch := first | omega | simp +decide only [ownqb0]) only [ownqb25, ↓brun_b, Nat.reduceAdd, Nat.reduceBEq]
  refine rcall cal.f154 ((pair_takes b q hb hq).1 _ _ g1) rfl rfl rfl rfl rfl rfl rfl ?_
  refine goK ?_
  simp -dsimp +decide (disch := first | omega | simp +decide only [ownqb0]) only [ownqb25, ↓brun_b, Nat.reduceAdd, Nat.reduceBEq, r251]
  refine rcall cal.f154 ((pair_takes b q1 hb hq1).1 _ _ g2) rfl rfl rfl rfl rfl rfl rfl ?_
  refine goK ?_
  simp -dsimp +decide (disch := first | omega | simp +decide only [ownqb0]) only [ownqb25, ↓brun_b, Nat.reduceAdd, Nat.reduceBEq, r251]
  refine rcall cal.f153 ((num_takes b q2 hb hq2).1 _ _ g3) rfl rfl rfl rfl rfl rfl rfl ?_
  refine goK ?_
  simp -dsimp +decide (disch := first | omega | simp +decide only [ownqb0]) only [ownqb25, ↓brun_b, Nat.reduceAdd, Nat.reduceBEq, r251]
  refine rcall cal.f156 (text_own 4096 (by decide) b q3 hb hq3 _ _ hr) rfl rfl rfl rfl rfl rfl rfl ?_
  refine goK ?_
  have hd : decide (qe < (b.length : Int)) = false := decide_eq_false hlt
  simp -dsimp +decide (disch := first | omega | simp +decide only [ownqb0]) only [ownqb25, ↓brun_b, Nat.reduceAdd, Nat.reduceBEq, rho, r251, bytR, hd]
  refine dec_retO 3 4 5 7 rfl rfl (FC.c_length _) rfl rfl rfl (by decide) ?_ ?_
  · refine FC.entX _ _ rfl rfl rfl rfl rfl ?_ ?_ ?_ ?_ ?_ ?_ ?_ ?_ ?_ ?_ ?_ ?_ ?_ ?_ ?_ <;> rfl
  · exact orL_wk _ _ _ _ _ (leO_gh rfl rfl) (leO_gh rfl rfl) (leO_gh rfl rfl) (leO_fl rfl rfl (fun _ => rfl) (brow_flat _))
set_option maxHeartbeats 4000000 in
theorem decO_4 (b : List UInt8) (hb : b.length ≤ 140737488355328) (q : Int) (h0 : rnum b 0 = .ok (4, q)) (F : Frm) (qe : Int) (hB : rbody 4 b q = .ok (F, qe)) (hlt : ¬ qe < (b.length : Int)) : SCall Try.prog 117 [bsl b] [] (OR F) := by
  have hq : I64 q := rnum_at.i64 hb h0
  obtain ⟨⟨⟨x1a, x1b⟩, ⟨x2a, ⟨x3a, x4a⟩⟩⟩, hr, rfl⟩ := map_ok hB
  obtain ⟨q1, g1, hr⟩ := both_ok hr
  have hq1 := rpath_at.i64 hb g1
  obtain ⟨q2, g2, hr⟩ := both_ok hr
  have hq2 := ridI_at.i64 hb g2
  obtain ⟨q3, g3, hr⟩ := both_ok hr
  have hq3 := ridI_at.i64 hb g3
  refine dec_headO b hb 4 q h0 4 rfl fun c hc => ?_
  cases hc
  refine goC ?_
  simp -dsimp +decide (disch := first | omega | simp +decide only [ownqb0]) only [ownqb25, ↓brun_b, Nat.reduceAdd, Nat.reduceBEq]
  refine rcall cal.f157 ((path_takes b q hb hq).1 _ _ g1) rfl rfl rfl rfl rfl rfl rfl ?_
  refine goK ?_
  simp -dsimp +decide (disch := first | omega | simp +decide only [ownqb0]) only [ownqb25, ↓brun_b, Nat.reduceAdd, Nat.reduceBEq, r251]
  refine rcall cal.f155 ((idI_takes b q1 hb hq1).1 _ _ g2) rfl rfl rfl rfl rfl rfl rfl ?_
  refine goK ?_
  simp -dsimp +decide (disch := first | omega | simp +decide only [ownqb0]) only [ownqb25, ↓brun_b, Nat.reduceAdd, Nat.reduceBEq, r251]
  refine rcall cal.f155 ((idI_takes b q2 hb hq2).1 _ _ g3) rfl rfl rfl rfl rfl rfl rfl ?_
  refine goK ?_
  simp -dsimp +decide (disch := first | omega | simp +decide only [ownqb0]) only [ownqb25, ↓brun_b, Nat.reduceAdd, Nat.reduceBEq, r251]
  refine rcall cal.f158 (trail_own b q3 hb hq3 _ _ hr) rfl rfl rfl rfl rfl rfl rfl ?_
  refine goK ?_
  have hd : decide (qe < (b.length : Int)) = false := decide_eq_false hlt
  simp -dsimp +decide (disch := first | omega | simp +decide only [ownqb0]) only [ownqb25, ↓brun_b, Nat.reduceAdd, Nat.reduceBEq, rho, r251, hd]
  refine dec_retO 7 4 5 6 rfl rfl (FC.c_length _) rfl rfl rfl (by decide) ?_ ?_
  · refine FC.entX _ _ rfl rfl rfl rfl rfl ?_ ?_ ?_ ?_ ?_ ?_ ?_ ?_ ?_ ?_ ?_ ?_ ?_ ?_ ?_ <;> rfl
  · exact orL_wk _ _ _ _ _ (leO_fl rfl rfl (fun _ => rfl) (lrow_flat _)) (leO_gh rfl rfl) (leO_gh rfl rfl) (leO_gh rfl rfl)
set_option maxHeartbeats 4000000 in
theorem decO_8 (b : List UInt8) (hb : b.length ≤ 140737488355328) (q : Int) (h0 : rnum b 0 = .ok (8, q)) (F : Frm) (qe : Int) (hB : rbody 8 b q = .ok (F, qe)) (hlt : ¬ qe < (b.length : Int)) : SCall Try.prog 117 [bsl b] [] (OR F) := by
  have hq : I64 q := rnum_at.i64 hb h0
  obtain ⟨⟨x1a, ⟨x2a, ⟨x3a, ⟨⟨x4a, x4b⟩, ⟨x5a, x6a⟩⟩⟩⟩⟩, hr, rfl⟩ := map_ok hB
  obtain ⟨q1, g1, hr⟩ := both_ok hr
  have hq1 := ridI_at.i64 hb g1
  obtain ⟨q2, g2, hr⟩ := both_ok hr
  have hq2 := ridI_at.i64 hb g2
  obtain ⟨q3, t3, hr⟩ := both_ok hr
  obtain ⟨n3, g3, rfl, s3⟩ := rsmall_ok t3
  have hq3 := rnum_at.i64 hb g3
  obtain ⟨q4, g4, hr⟩ := both_ok hr
  have hq4 := rpath_at.i64 hb g4
  obtain ⟨q5, g5, hr⟩ := both_ok hr
  have hq5 := rflag_at.i64 hb g5
  refine dec_headO b hb 8 q h0 8 rfl fun c hc => ?_
  cases hc
  refine goC ?_
  simp -dsimp +decide (disch := first | omega | simp +decide only [ownqb0]) only [ownqb25, ↓brun_b, Nat.reduceAdd, Nat.reduceBEq]
  refine rcall cal.f155 ((idI_takes b q hb hq).1 _ _ g1) rfl rfl rfl rfl rfl rfl rfl ?_
  refine goK ?_
  simp -dsimp +decide (disch := first | omega | simp +decide only [ownqb0]) only [ownqb25, ↓brun_b, Nat.reduceAdd, Nat.reduceBEq, r251]
  refine rcall cal.f155 ((idI_takes b q1 hb hq1).1 _ _ g2) rfl rfl rfl rfl rfl rfl rfl ?_
  refine goK ?_
  simp -dsimp +decide (disch := first | omega | simp +decide only [ownqb0]) only [ownqb25, ↓brun_b, Nat.reduceAdd, Nat.reduceBEq, r251]
  refine rcall cal.f153 ((num_takes b q2 hb hq2).1 _ _ g3) rfl rfl rfl rfl rfl rfl rfl ?_
  refine goK ?_
  have hmin : min (n3 : Int) 99 = ((min n3 99 : Nat) : Int) := by omega
  have hmin2 : (if (99 : Int) < (n3 : Int) then (99 : Int) else (n3 : Int)) = ((min n3 99 : Nat) : Int) := by split <;> omega
  have hd2 : decide ((3 : Int) < ((min n3 99 : Nat) : Int)) = false := decide_eq_false (by omega)
  simp -dsimp +decide (disch := first | omega | simp +decide only [ownqb0]) only [ownqb25, ↓brun_b, Nat.reduceAdd, Nat.reduceBEq, r251, hmin2, hd2]
  clear hmin hmin2 hd2
  refine rcall cal.f157 ((path_takes b q3 hb hq3).1 _ _ g4) rfl rfl rfl rfl rfl rfl rfl ?_
  refine goK ?_
  simp -dsimp +decide (disch := first | omega | simp +decide only [ownqb0]) only [ownqb25, ↓brun_b, Nat.reduceAdd, Nat.reduceBEq, r251]
  refine rcall cal.f159 ((flag_takes b q4 hb hq4).1 _ _ g5) rfl rfl rfl rfl rfl rfl rfl ?_
  refine goK ?_
  simp -dsimp +decide (disch := first | omega | simp +decide only [ownqb0]) only [ownqb25, ↓brun_b, Nat.reduceAdd, Nat.reduceBEq, r251]
  refine rcall cal.f158 (trail_own b q5 hb hq5 _ _ hr) rfl rfl rfl rfl rfl rfl rfl ?_
  refine goK ?_
  have hd : decide (qe < (b.length : Int)) = false := decide_eq_false hlt
  simp -dsimp +decide (disch := first | omega | simp +decide only [ownqb0]) only [ownqb25, ↓brun_b, Nat.reduceAdd, Nat.reduceBEq, rho, r251, hd]
  refine dec_retO 7 4 5 6 rfl rfl (FC.c_length _) rfl rfl rfl (by decide) ?_ ?_
  · refine FC.entX _ _ rfl rfl rfl rfl rfl ?_ ?_ ?_ ?_ ?_ ?_ ?_ ?_ ?_ ?_ ?_ ?_ ?_ ?_ ?_ <;> rfl
  · exact orL_wk _ _ _ _ _ (leO_fl rfl rfl (fun _ => rfl) (lrow_flat _)) (leO_gh rfl rfl) (leO_gh rfl rfl) (leO_gh rfl rfl)
end Go.Proofs
namespace Go.Proofs
open Go Go.SL
set_option maxRecDepth 100000
def ownqb26 :=
  (aI (aI (aI (aI ownqc1 ownqc2) (aI ownqc3 (aI ownqc4 ownqc5))) (aI (aI @FC.c_length (aI @IC.renc @tab.a35)) (aI @tab.a37 (aI @tab.a5 @tab.f149x0)))) (aI (aI (aI @tab.f149x1 @tab.f149x2) (aI @tab.f251x0 (aI @tab.f251x1 @tab.s145))) (aI (aI @tab.s2 (aI @tab.s35 @tab.s37)) (aI @tab.s5 (aI @tab.u145 @tab.u35)))))
set_option maxHeartbeats 4000000 in
theorem decO_10 (b : List UInt8) (hb : b.length ≤ 140737488355328) (q : Int) (h0 : rnum b 0 = .ok (10, q)) (F : Frm) (qe : Int) (hB : rbody 10 b q = .ok (F, qe)) (hlt : ¬ qe < (b.length : Int)) : SCall Try.prog 117 [bsl b] [] (OR F) := by
  have hq : I64 q := rnum_at.i64 hb h0
  obtain ⟨⟨x1a, ⟨x2a, ⟨x3a, ⟨x4a, ⟨x5a, ⟨⟨x6a, ⟨x6b, x6c⟩, x6d⟩, x7a⟩⟩⟩⟩⟩⟩, hr, rfl⟩ := map_ok hB
  obtain ⟨q1, g1, hr⟩ := both_ok hr
  have hq1 := ridI_at.i64 hb g1
  obtain ⟨q2, g2, hr⟩ := both_ok hr
  have hq2 := ridI_at.i64 hb g2
  obtain ⟨q3, g3, hr⟩ := both_ok hr
  have hq3 := rnum_at.i64 hb g3
  obtain ⟨q4, t4, hr⟩ := both_ok hr
  obtain ⟨n4, g4, rfl, s4⟩ := rsmall_ok t4
  have hq4 := rnum_at.i64 hb g4
  obtain ⟨q5, t5, hr⟩ := both_ok hr
  obtain ⟨n5, g5, rfl, s5⟩ := rsmall_ok t5
  have hq5 := rnum_at.i64 hb g5
  obtain ⟨q6, g6, hr⟩ := both_ok hr
  have hq6 := ritem_at.i64 hb g6
  refine dec_headO b hb 10 q h0 10 rfl fun c hc => ?_
  cases hc
  refine goC ?_
  simp -dsimp +decide (disch := first | omega | simp +decide only [ownqb0]) only [ownqb25, ↓brun_b, Nat.reduceAdd, Nat.reduceBEq]
  refine rcall cal.f155 ((idI_takes b q hb hq).1 _ _ g1) rfl rfl rfl rfl rfl rfl rfl ?_
  refine goK ?_
  simp -dsimp +decide (disch := first | omega | simp +decide only [ownqb0]) only [ownqb25, ↓brun_b, Nat.reduceAdd, Nat.reduceBEq, r251]
  refine rcall cal.f155 ((idI_takes b q1 hb hq1).1 _ _ g2) rfl rfl rfl rfl rfl rfl rfl ?_
  refine goK ?_
  simp -dsimp +decide (disch := first | omega | simp +decide only [ownqb0]) only [ownqb25, ↓brun_b, Nat.reduceAdd, Nat.reduceBEq, r251]
  refine rcall cal.f153 ((num_takes b q2 hb hq2).1 _ _ g3) rfl rfl rfl rfl rfl rfl rfl ?_
  refine goK ?_
  simp -dsimp +decide (disch := first | omega | simp +decide only [ownqb0]) only [ownqb25, ↓brun_b, Nat.reduceAdd, Nat.reduceBEq, r251]
  refine rcall cal.f153 ((num_takes b q3 hb hq3).1 _ _ g4) rfl rfl rfl rfl rfl rfl rfl ?_
  refine goK ?_
  have hmin : min (n4 : Int) 99 = ((min n4 99 : Nat) : Int) := by omega
  have hmin2 : (if (99 : Int) < (n4 : Int) then (99 : Int) else (n4 : Int)) = ((min n4 99 : Nat) : Int) := by split <;> omega
  have hd : decide (((min n4 99 : Nat) : Int) < (1 : Int)) = false := decide_eq_false (by omega)
  have hd2 : decide ((4 : Int) < ((min n4 99 : Nat) : Int)) = false := decide_eq_false (by omega)
  simp -dsimp +decide (disch := first | omega | simp +decide only [ownqb0]) only [ownqb25, ↓brun_b, Nat.reduceAdd, Nat.reduceBEq, r251, hmin2, hd, hd2]
  clear hmin hmin2 hd2 hd
  refine rcall cal.f153 ((num_takes b q4 hb hq4).1 _ _ g5) rfl rfl rfl rfl rfl rfl rfl ?_
  refine goK ?_
  have hmin : min (n5 : Int) 99 = ((min n5 99 : Nat) : Int) := by omega
  have hmin2 : (if (99 : Int) < (n5 : Int) then (99 : Int) else (n5 : Int)) = ((min n5 99 : Nat) : Int) := by split <;> omega
  have hd2 : decide ((64 : Int) < ((min n5 99 : Nat) : Int)) = false := decide_eq_false (by omega)
  simp -dsimp +decide (disch := first | omega | simp +decide only [ownqb0]) only [ownqb25, ↓brun_b, Nat.reduceAdd, Nat.reduceBEq, r251, hmin2, hd2]
  clear hmin hmin2 hd2
  refine rcall cal.f161 (itemO b q5 hb hq5 _ _ _ _ _ g6) rfl rfl rfl rfl rfl rfl rfl ?_
  refine goK ?_
  simp -dsimp +decide (disch := first | omega | simp +decide only [ownqb0]) only [ownqb26, ↓brun_b, Nat.reduceAdd, Nat.reduceBEq, rho, r251]
  refine rcall cal.f156 (text_own 64 (by decide) b q6 hb hq6 _ _ hr) rfl rfl rfl rfl rfl rfl rfl ?_
  refine goK ?_
  have hd : decide (qe < (b.length : Int)) = false := decide_eq_false hlt
  simp -dsimp +decide (disch := first | omega | simp +decide only [ownqb0]) only [ownqb25, ↓brun_b, Nat.reduceAdd, Nat.reduceBEq, rho, r251, bytR, hd]
  refine dec_retO 3 4 7 8 rfl rfl (FC.c_length _) rfl rfl rfl (by decide) ?_ ?_
  · refine FC.entX _ _ rfl rfl rfl rfl rfl ?_ ?_ ?_ ?_ ?_ ?_ ?_ ?_ ?_ ?_ ?_ ?_ ?_ ?_ ?_ <;> rfl
  · exact orL_wk _ _ _ _ _ (leO_gh rfl rfl) (leO_gh rfl rfl) (leO_fl rfl rfl (fun _ => rfl) (brow_flat _)) (leO_fl rfl rfl (fun _ => rfl) (brow_flat _))
set_option maxHeartbeats 4000000 in
theorem decO_11 (b : List UInt8) (hb : b.length ≤ 140737488355328) (q : Int) (h0 : rnum b 0 = .ok (11, q)) (F : Frm) (qe : Int) (hB : rbody 11 b q = .ok (F, qe)) (hlt : ¬ qe < (b.length : Int)) : SCall Try.prog 117 [bsl b] [] (OR F) := by
  have hq : I64 q := rnum_at.i64 hb h0
  obtain ⟨⟨⟨x1a, x1b⟩, ⟨x2a, ⟨x3a, ⟨x3b, x3c⟩, x3d⟩⟩⟩, hr, rfl⟩ := map_ok hB
  obtain ⟨q1, g1, hr⟩ := both_ok hr
  have hq1 := rpath_at.i64 hb g1
  obtain ⟨q2, g2, hr⟩ := both_ok hr
  have hq2 := rflag_at.i64 hb g2
  refine dec_headO b hb 11 q h0 11 rfl fun c hc => ?_
  cases hc
  refine goC ?_
  simp -dsimp +decide (disch := first | omega | simp +decide only [ownqb0]) only [ownqb25, ↓brun_b, Nat.reduceAdd, Nat.reduceBEq]
  refine rcall cal.f157 ((path_takes b q hb hq).1 _ _ g1) rfl rfl rfl rfl rfl rfl rfl ?_
  refine goK ?_
  simp -dsimp +decide (disch := first | omega | simp +decide only [ownqb0]) only [ownqb25, ↓brun_b, Nat.reduceAdd, Nat.reduceBEq, r251]
  refine rcall cal.f159 ((flag_takes b q1 hb hq1).1 _ _ g2) rfl rfl rfl rfl rfl rfl rfl ?_
  refine goK ?_
  simp -dsimp +decide (disch := first | omega | simp +decide only [ownqb0]) only [ownqb25, ↓brun_b, Nat.reduceAdd, Nat.reduceBEq, r251]
  refine rcall cal.f161 (itemO b q2 hb hq2 _ _ _ _ _ hr) rfl rfl rfl rfl rfl rfl rfl ?_
  refine goK ?_
  have hd : decide (qe < (b.length : Int)) = false := decide_eq_false hlt
  simp -dsimp +decide (disch := first | omega | simp +decide only [ownqb0]) only [ownqb26, ↓brun_b, Nat.reduceAdd, Nat.reduceBEq, rho, r251, bytR, hd]
  refine dec_retO 3 4 7 6 rfl rfl (FC.c_length _) rfl rfl rfl (by decide) ?_ ?_
  · refine FC.entX _ _ rfl rfl rfl rfl rfl ?_ ?_ ?_ ?_ ?_ ?_ ?_ ?_ ?_ ?_ ?_ ?_ ?_ ?_ ?_ <;> rfl
  · exact orL_wk _ _ _ _ _ (leO_gh rfl rfl) (leO_gh rfl rfl) (leO_fl rfl rfl (fun _ => rfl) (brow_flat _)) (leO_gh rfl rfl)
end Go.Proofs
namespace Go.Proofs
open Go Go.SL
set_option maxRecDepth 100000
def ownqb27 :=
  (aI (aI (aI (aI ownqc1 (aI ownqc2 ownqc3)) (aI (aI ownqc4 ownqc5) (aI @FC.c_length @FC.ent))) (aI (aI @List.length_nil.{0} (aI @bwk_a @eq_self.{1})) (aI (aI @forall_const.{1} @implies_true.{0}) (aI @implies_true.{1} @tab.a35)))) (aI (aI (aI @tab.a37 (aI @tab.a5 @tab.f149x0)) (aI (aI @tab.f149x1 @tab.f149x2) (aI @tab.f251x0 @tab.f251x1))) (aI (aI @tab.s145 (aI @tab.s2 @tab.s35)) (aI (aI @tab.s37 @tab.s5) (aI @tab.u145 @tab.u35)))))
def ownqb28 :=
  (aI (aI (aI (aI ownqc1 (aI ownqc2 ownqc3)) (aI ownqc4 (aI ownqc5 @FC.c_length))) (aI (aI @bwk_a (aI @eq_self.{1} @forall_const.{1})) (aI (aI @implies_true.{0} @implies_true.{1}) (aI @tab.a35 @tab.a37)))) (aI (aI (aI @tab.a5 (aI @tab.f149x0 @tab.f149x1)) (aI @tab.f149x2 (aI @tab.f251x0 @tab.f251x1))) (aI (aI @tab.s145 (aI @tab.s2 @tab.s35)) (aI (aI @tab.s37 @tab.s5) (aI @tab.u145 @tab.u35)))))
def ownqb29 :=
  (aI (aI (aI (aI ownqc3 ownqc4) (aI ownqc5 @tab.a35)) (aI (aI @tab.a37 @tab.a5) (aI @tab.f149x0 (aI @tab.f149x1 @tab.f149x2)))) (aI (aI (aI @tab.f251x0 @tab.f251x1) (aI @tab.s145 @tab.s2)) (aI (aI @tab.s35 @tab.s37) (aI @tab.s5 (aI @tab.u145 @tab.u35)))))
def ownqb30 :=
  (aI (aI (aI (aI ownqc1 ownqc2) (aI ownqc3 (aI ownqc4 ownqc5))) (aI (aI @FC.c_length (aI @bs79 @tab.a35)) (aI @tab.a37 (aI @tab.a5 @tab.f149x0)))) (aI (aI (aI @tab.f149x1 @tab.f149x2) (aI @tab.f251x0 (aI @tab.f251x1 @tab.s145))) (aI (aI @tab.s2 (aI @tab.s35 @tab.s37)) (aI @tab.s5 (aI @tab.u145 @tab.u35)))))
def ownqb31 :=
  (aI (aI (aI (aI ownqc1 (aI ownqc2 ownqc3)) (aI ownqc4 (aI ownqc5 @FC.c_length))) (aI (aI @FC.ent (aI @bwk_a @eq_self.{1})) (aI (aI @forall_const.{1} @implies_true.{0}) (aI @implies_true.{1} @tab.a35)))) (aI (aI (aI @tab.a37 (aI @tab.a5 @tab.f149x0)) (aI (aI @tab.f149x1 @tab.f149x2) (aI @tab.f251x0 @tab.f251x1))) (aI (aI @tab.s145 (aI @tab.s2 @tab.s35)) (aI (aI @tab.s37 @tab.s5) (aI @tab.u145 @tab.u35)))))
set_option maxHeartbeats 4000000 in
theorem decO_7 (b : List UInt8) (hb : b.length ≤ 140737488355328) (q : Int) (h0 : rnum b 0 = .ok (7, q)) (F : Frm) (qe : Int) (hB : rbody 7 b q = .ok (F, qe)) (hlt : ¬ qe < (b.length : Int)) : SCall Try.prog 117 [bsl b] [] (OR F) := by
  have hq : I64 q := rnum_at.i64 hb h0
  obtain ⟨⟨⟨x1a, x1b⟩, x2a, xl⟩, hr, rfl⟩ := map_ok hB
  obtain ⟨q1, g1, hr⟩ := both_ok hr
  have hq1 := rpath_at.i64 hb g1
  obtain ⟨q2, g2, hr⟩ := both_ok hr
  have hq2 := rflag_at.i64 hb g2
  rcases g3 : rmany 16 b q2 with e | ⟨n, q3⟩
  · exact absurd ((ridl_err g3).symm.trans hr) (fun h => nomatch h)
  have hq3 := rmany_at.i64 hb g3
  have hn16 := rmany_le g3
  rw [ridl_ok g3] at hr
  refine dec_headO b hb 7 q h0 7 rfl fun c hc => ?_
  cases hc
  refine goC ?_
  simp -dsimp +decide (disch := first | omega | simp +decide only [ownqb0]) only [ownqb25, ↓brun_b, Nat.reduceAdd, Nat.reduceBEq]
  refine rcall cal.f157 ((path_takes b q hb hq).1 _ _ g1) rfl rfl rfl rfl rfl rfl rfl ?_
  refine goK ?_
  simp -dsimp +decide (disch := first | omega | simp +decide only [ownqb0]) only [ownqb25, ↓brun_b, Nat.reduceAdd, Nat.reduceBEq, r251]
  refine rcall cal.f159 ((flag_takes b q1 hb hq1).1 _ _ g2) rfl rfl rfl rfl rfl rfl rfl ?_
  refine goK ?_
  simp -dsimp +decide (disch := first | omega | simp +decide only [ownqb0]) only [ownqb25, ↓brun_b, Nat.reduceAdd, Nat.reduceBEq, r251]
  refine rcall cal.f160 ((many_takes 16 b q2 hb hq2).1 _ _ g3) rfl rfl rfl rfl rfl rfl rfl ?_
  refine goK ?_
  simp -dsimp +decide (disch := first | omega | simp +decide only [ownqb0]) only [ownqb25, ↓brun_b, Nat.reduceAdd, r251]
  refine Sem.loop (ι := {p : Nat × List I16 × Int // p.1 ≤ n ∧ p.2.1.length = p.1 ∧ I64 p.2.2 ∧ IdsAt n b q3 p.1 p.2.1 p.2.2}) (fun p => ⟨206, 2, [(0, bsl b), (2, .ptr 0 0 0), (3, .ptr 1 0 0), (4, .ptr 2 0 0), (88, .v (.int .i64 (n : Int))), (89, .v (.int .i64 (p.1.1 : Int)))], [some (.row ⟨95, 1, true, 151, fun _ => FC.c { zF with kind := .v (.int .i64 7), who := x1a, pn := .v (.int .i64 (x1b : Int)), toA := .v (.bool x2a), tr := .slc 3 0 0, is := .slc 4 0 p.1.2.1.length, val := .slc 5 0 0, tx := .slc 6 0 0 }⟩), some (.row ⟨1, 1, true, 37, fun _ => [.v (.int .i64 0)]⟩), some (.row ⟨2, 1, true, 251, fun _ => [bsl b, .v (.int .i64 p.1.2.2)]⟩), some (.row ⟨1, 0, true, 3, fun _ => []⟩), some (.row ⟨16, p.1.2.1.length, true, 23, fun e => (idrs p.1.2.1).getD e []⟩), some (.row ⟨1, 0, true, 5, fun _ => []⟩), some (.row ⟨1, 0, true, 5, fun _ => []⟩)]⟩) (fun p => n - p.1.1) ⟨(0, [], q3), Nat.zero_le _, rfl, hq3, by unfold IdsAt; rw [Nat.sub_zero]; rcases rids n b q3 with e | ⟨m, q'⟩ <;> rfl⟩ [0, 1, 2, 3, 4, 5, 6] ?_ ?_
  · (refine Wk.ofC ?_; simp -dsimp +decide (disch := first | omega | simp +decide only [ownqb0]) only [ownqb27, ↓brun_b, Nat.reduceAdd, Nat.reduceBEq])
  · rintro ⟨⟨k, l, q4⟩, hk, hl, hq4, hat⟩
    simp only at hk hl hq4 hat
    obtain ⟨m1, m2⟩ := idI_takes b q4 hb hq4
    refine goC ?_
    simp -dsimp +decide (disch := first | omega | simp +decide only [ownqb0]) only [ownqb25, ↓brun_b, Nat.reduceAdd, Nat.reduceBEq]
    refine SCond.split (fun h1 => ?_) (fun h1 => ?_)
    · simp only [decide_eq_true_eq] at h1
      have hk' : k < n := by omega
      have hwk : IntKind.i64.wrap ((k : Int) + 1) = ((k + 1 : Nat) : Int) := by rw [wrap_i64 _ (by omega)]; rfl
      simp -dsimp +decide (disch := first | omega | simp +decide only [ownqb0]) only [ownqb25]
      rcases g4 : ridI b q4 with e | ⟨x, q5⟩
      · have he := idsAt_err hat hk' g4
        exact absurd (he.symm.trans hr) (fun h => nomatch h)
      · have hd := m1 x q5 g4
        have he := idsAt_step hat hk' g4
        have hq5 := ridI_at.i64 hb g4
        refine Sem.draw' (by kernel_rfl) (.one 0 (.one 2 (.alt 1 (.alt 3 (.alt 4 (.alt 5 (.one 6 (.alt 7 .done .non)) .non) .non) .non) (.alt 3 (.alt 1 (.alt 4 (.alt 5 (.one 6 (.alt 7 .done .non)) .non) .non) (.alt 4 (.alt 1 (.alt 5 (.one 6 (.alt 7 .done .non)) .non) .non) .non)) .non)))) [0, 2, 4] (by kernel_rfl) (fun G ff hG hf => ?_)
        simp +decide only [ownqb7, Nat.reduceAdd] at hG ⊢
        simp -dsimp +decide (disch := first | omega | simp +decide only [ownqb0]) only [ownqb25, ↓brun_b, Nat.reduceAdd, Nat.reduceBEq]
        (repeat' refine And.intro ?_ ?_)
        all_goals
          refine OpSem.callw [2] cal.f155 (hd) rfl rfl (by simp -dsimp +decide (disch := first | omega | simp +decide only [ownqb0]) only [ownqb28, ↓brun_b, Nat.reduceAdd, Nat.reduceBEq]) rfl (by simp -dsimp +decide (disch := first | omega | simp +decide only [ownqb0]) only [ownqb28, Nat.reduceAdd]) (dK rfl) ?_
          simp -dsimp +decide (disch := first | omega | simp +decide only [ownqb0]) only [ownqb30, ↓brun_b, Nat.reduceAdd, Nat.reduceBEq, sapp1_sl elN23, Nat.le_refl]
          (repeat' refine And.intro ?_ ?_)
          all_goals first | omega | skip
          all_goals
            refine hf _ (Sem.go (k := 1000) ?_)
            simp +decide only [back_mk, backL_in, backL_row, backL_nil, Nat.zero_add, Nat.reduceAdd]
            simp -dsimp +decide (disch := first | omega | simp +decide only [ownqb0]) only [ownqb25, ↓brun_b, Nat.reduceAdd, Nat.reduceBEq, hwk]
            refine ⟨⟨(k + 1, l ++ [x], q5), hk', by simp [hl], hq5, he⟩, [0, 1, 2, 3, 8, 5, 6], ?_, by show n - (k + 1) < n - k; omega⟩
            have e1 : (l ++ [x]).length = l.length + 1 := by simp
            (refine Wk.ofC ?_; simp -dsimp +decide (disch := first | omega | simp +decide only [ownqb0]) only [ownqb31, ↓brun_b, Nat.reduceAdd, Nat.reduceBEq, e1])
            exact fun e he => app_idrs l x e he
    · simp only [decide_eq_false_iff_not] at h1
      obtain rfl : k = n := by omega
      have he := idsAt_end hat
      have hBe := he.symm.trans hr
      injection hBe with hBe
      injection hBe with hF hqe
      subst hF hqe
      have hd : decide (q4 < (b.length : Int)) = false := decide_eq_false hlt
      simp -dsimp +decide (disch := first | omega | simp +decide only [ownqb0]) only [ownqb25, ↓brun_b, reduceIte, Nat.reduceAdd, Nat.reduceBEq, hd]
      refine dec_retO 3 4 5 6 rfl rfl (FC.c_length _) rfl rfl rfl (by decide) ?_ ?_
      · refine FC.entX _ _ rfl rfl rfl rfl rfl ?_ ?_ ?_ ?_ ?_ ?_ ?_ ?_ ?_ ?_ ?_ ?_ ?_ ?_ ?_ <;> rfl
      · exact orL_wk _ _ _ _ _ (leO_gh rfl rfl) (leO_fl rfl rfl (fun _ => rfl) (idr_flat _)) (leO_gh rfl rfl) (leO_gh rfl rfl)
end Go.Proofs
namespace Go.Proofs
open Go Go.SL
set_option maxRecDepth 100000
theorem decode_own (F : Frm) (hg : good F) (hl : (bytesB F).length ≤ 140737488355328) : SCall Try.prog 117 [bsl (bytesB F)] [] fun r L => r = .ret (.tup [.agg (ofc F 0 1 2 3).c, .v (.int .i64 0)]) ∧ L = ownR F := by
  have hr : rdec (bytesB F) 0 = .ok (F, ((bytesB F).length : Int)) := by
    have := rdec_code.get F hg [] []
    simp only [List.nil_append, List.append_nil, List.length_nil, Nat.zero_add] at this
    exact this
  generalize bytesB F = b at *
  have hlt : ¬ ((b.length : Int) < (b.length : Int)) := by omega
  have h : SCall Try.prog 117 [bsl b] [] fun r L => r = .ret (.tup [.agg (ofc F 2 3 4 5).c, .v (.int .i64 0)]) ∧ L = [none, none, trR F, isR F, bytR F.val, bytR F.tx] := by
    rcases h0 : rnum b 0 with e | ⟨k, q⟩
    · exact absurd ((show rdec b 0 = .error e by unfold rdec; rw [Rd.bind_err h0]).symm.trans hr) (fun h => nomatch h)
    · have hB : rbody (min k 99) b q = .ok (F, (b.length : Int)) := (show rdec b 0 = rbody (min k 99) b q by unfold rdec; rw [Rd.bind_ok h0]).symm.trans hr
      by_cases hk : 1 ≤ k ∧ k ≤ 12
      · have hm : min k 99 = k := by omega
        rw [hm] at hB
        have : k = 1 ∨ k = 2 ∨ k = 3 ∨ k = 4 ∨ k = 5 ∨ k = 6 ∨ k = 7 ∨ k = 8 ∨ k = 9 ∨ k = 10 ∨ k = 11 ∨ k = 12 := by omega
        rcases this with rfl | rfl | rfl | rfl | rfl | rfl | rfl | rfl | rfl | rfl | rfl | rfl
        · exact decO_1 b hl q h0 F _ hB hlt
        · exact decO_2 b hl q h0 F _ hB hlt
        · exact decO_3 b hl q h0 F _ hB hlt
        · exact decO_4 b hl q h0 F _ hB hlt
        · exact decO_5 b hl q h0 F _ hB hlt
        · exact decO_6 b hl q h0 F _ hB hlt
        · exact decO_7 b hl q h0 F _ hB hlt
        · exact decO_8 b hl q h0 F _ hB hlt
        · exact decO_9 b hl q h0 F _ hB hlt
        · exact decO_10 b hl q h0 F _ hB hlt
        · exact decO_11 b hl q h0 F _ hB hlt
        · exact decO_12 b hl q h0 F _ hB hlt
      · rw [rbody_none _ (by omega)] at hB
        exact nomatch hB
  refine SCall.tell [2, 3, 4, 5] h ⟨rfl, rfl, rfl, rfl, rfl, rfl, ⟨⟨_, rfl, _, _, rfl, ⟨_, rfl, ?_⟩, _, _, rfl, rfl, rfl⟩, trivial⟩, ?_⟩
  · refine FC.entX _ _ rfl rfl rfl rfl rfl ?_ ?_ ?_ ?_ ?_ ?_ ?_ ?_ ?_ ?_ ?_ ?_ ?_ ?_ ?_ <;> rfl
  · exact ⟨EntK_flat fun e => lrow_flat _ _, EntK_flat fun e => idr_flat _ _, EntK_flat fun e => brow_flat _ _, EntK_flat fun e => brow_flat _ _, trivial⟩
theorem renL_app (ρ : Nat → Nat) : ∀ (l m : List SV), SV.renL ρ (l ++ m) = SV.renL ρ l ++ SV.renL ρ m
  | [], m => rfl
  | x :: l, m => by simp only [List.cons_append, SV.renL, renL_app ρ l m]
theorem ofc_ren (ρ : Nat → Nat) (F : Frm) (a b c d : Nat) : SV.renL ρ (ofc F a b c d).c = (ofc F (ρ a) (ρ b) (ρ c) (ρ d)).c := by
  simp only [FC.c, ofc, SV.renL, SV.ren, renL_app, renL_flat _ _ (I16.flat _)]
theorem ofc_renA (ρ : Nat → Nat) (F : Frm) (a b c d : Nat) : SV.ren ρ (.agg (ofc F a b c d).c) = .agg (ofc F (ρ a) (ρ b) (ρ c) (ρ d)).c := by
  show SV.agg _ = _
  rw [ofc_ren]
theorem bodyO_ren (ρ : Nat → Nat) (F : Frm) (a b c d : Nat) : SV.ren ρ (bodyO F a b c d) = bodyO F (ρ a) (ρ b) (ρ c) (ρ d) := by
  unfold bodyO
  split <;> simp only [SV.ren, SV.renL, H1.c, SU.c, DR.c, PT.c, PE.c, AK.c, AD.c, PK.c, CP.c, GT.c, renL_app, renL_flat _ _ (I16.flat _)]
theorem bodyO_nom (F : Frm) (a b c d : Nat) : (bodyO F a b c d).nom = true := by
  unfold bodyO
  split <;> simp only [SV.nom, SV.nomL, H1.c, SU.c, DR.c, PT.c, PE.c, AK.c, AD.c, PK.c, CP.c, GT.c, nomL_app, I16.nom, Bool.and_self]
theorem bodyV_ifc (F : Frm) : ∃ t x, bodyV F = .ifc t x := by
  unfold bodyV
  split <;> exact ⟨_, _, rfl⟩
def ownqc6 :=
  (aI (aI (aI @AD.flat @AK.flat) (aI @CP.flat (aI @DR.flat @GT.flat))) (aI (aI @H1.flat @PE.flat) (aI @PK.flat (aI @PT.flat @SU.flat))))
def ownqb32 :=
  (aI (aI (aI ownqc6 @bsl_flat) (aI @flatL_cons @flatL_nil)) (aI (aI @flatR_brows @flat_agg) (aI @flat_v (aI @idrs_flat @lrows_flat))))
theorem bodyV_flat (F : Frm) : (bodyV F).flat = true := by
  unfold bodyV
  split <;> simp +decide only [SV.flat, ownqb32, Bool.and_self]
theorem given_tr {fz : Nat → Option SB} {ρ : Nat → Nat} {b : Nat} (l : List Int) (h : fz b = some ⟨1, l.length, true, 3, lrow l⟩) : Ent fz ρ (.rsl 1 (lrows l)) (.slc b 0 l.length) :=
  .inr (.inl ⟨b, 0, _, by rw [lrows_length], h, rfl, by rw [lrows_length]; show 0 + l.length ≤ l.length; omega, EntF.of fun i r hr => lrow_row l i r hr⟩)
theorem given_by {fz : Nat → Option SB} {ρ : Nat → Nat} {b : Nat} (l : List UInt8) (h : fz b = some ⟨1, l.length, true, 5, brow l⟩) : Ent fz ρ (bsl l) (.slc b 0 l.length) :=
  .inr (.inl ⟨b, 0, _, by rw [brows_length], h, rfl, by rw [brows_length]; show 0 + l.length ≤ l.length; omega, EntF.of fun i r hr => by
    obtain ⟨h1, rfl⟩ := brows_get hr
    show EntL _ _ _ (brow l (0 + i))
    rw [Nat.zero_add]
    exact EntL.self rfl⟩)
theorem given_is {fz : Nat → Option SB} {ρ : Nat → Nat} {b : Nat} (l : List I16) (h : fz b = some ⟨16, l.length, true, 23, fun e => (idrs l).getD e []⟩) : Ent fz ρ (.rsl 16 (idrs l)) (.slc b 0 l.length) :=
  .inr (.inl ⟨b, 0, _, by rw [idrs_len], h, rfl, by rw [idrs_len]; show 0 + l.length ≤ l.length; omega, EntF.of fun i r hr => ids_row l i r hr⟩)
theorem ofc_given {fz : Nat → Option SB} {ρ : Nat → Nat} (F : Frm) (a b c d : Nat) (ha : fz a = some ⟨1, F.tr.length, true, 3, lrow F.tr⟩) (hb : fz b = some ⟨16, F.is.length, true, 23, fun e => (idrs F.is).getD e []⟩)
    (hc : fz c = some ⟨1, F.val.length, true, 5, brow F.val⟩) (hd : fz d = some ⟨1, F.tx.length, true, 5, brow F.tx⟩) : EntL fz ρ F.fc.c (ofc F a b c d).c := by
  refine FC.entX F.fc (ofc F a b c d) rfl rfl rfl rfl rfl ?_ ?_ ?_ ?_ ?_ ?_ ?_ ?_ ?_ ?_ ?_ ?_ ?_ ?_ ?_
  all_goals first | exact given_tr _ ha | exact given_is _ hb | exact given_by _ hc | exact given_by _ hd | rfl
theorem body_given {fz : Nat → Option SB} {ρ : Nat → Nat} (F : Frm) (a b c d : Nat) (ha : fz a = some ⟨1, F.tr.length, true, 3, lrow F.tr⟩) (hb : fz b = some ⟨16, F.is.length, true, 23, fun e => (idrs F.is).getD e []⟩)
    (hc : fz c = some ⟨1, F.val.length, true, 5, brow F.val⟩) (hd : fz d = some ⟨1, F.tx.length, true, 5, brow F.tx⟩) : Ent fz ρ (bodyV F) (bodyO F a b c d) := by
  unfold bodyV bodyO
  split
  all_goals refine ⟨_, rfl, _, rfl, ?_⟩
  all_goals first | rw [H1.ent] | rw [SU.ent] | rw [DR.ent] | rw [PT.ent] | rw [PE.ent] | rw [AK.ent] | rw [AD.ent] | rw [PK.ent] | rw [CP.ent] | rw [GT.ent] | skip
  all_goals first | exact ⟨_, _, rfl, rfl, _, _, rfl, rfl, _, _, rfl, rfl, _, _, rfl, rfl, _, _, rfl, rfl, rfl⟩ | exact ⟨_, _, rfl, rfl, _, _, rfl, rfl, _, _, rfl, rfl, _, _, rfl, rfl, _, _, rfl, rfl, _, _, rfl, given_by _ hd, rfl⟩ | skip
  all_goals (repeat' apply And.intro)
  all_goals first | exact given_tr _ ha | exact given_is _ hb | exact given_by _ hc | exact given_by _ hd | rfl
end Go.Proofs
namespace Go.SL
open Go
section
variable {P : Program} {s : St}
theorem SemOps.lendQ {Q : SX → St → Prop} {K : List It} {all rest : List Oper} {s1 : St} {op : Oper} {fo : Operand} {argos : Array Operand} {ats : Array TypeId} {f : FuncId} {x x' : SV} {ac : List SV} {L1 : List (Option SK)} (hl : Lent P s s1)
    (hcal : Cal P f) (hc : SCall P f ac [] fun r L' => r = .ret x ∧ L' = L1) (hop : op.op = .call ⟨.value fo, argos, ats⟩) (hg : op.guard = none) (hfv : seval s1.env fo = .fn (.func f) [] [])
    (hargs : argos.toList.map (seval s1.env) = ac) (hren : SV.flatL ac = true) (hx : x.nom = true) (hL1 : nomK L1) (hr : ∀ ρ, L1.map (Option.map (SK.ren ρ)) = L1) (hx' : x.ren (rho [] s.L.length) = x')
    (hd : ∀ d, op.dst = some d → d < s.sz) (next : SemOps P Q all rest K (St.put ⟨s.sz, s.base, s.env, s.L ++ L1⟩ op.dst x')) : SemOps P Q all (op :: rest) K s := by
  have e : s.after [] [] L1 = ⟨s.sz, s.base, s.env, s.L ++ L1⟩ := by
    unfold St.after
    rw [mergeL_done, hr]
  refine SemOps.lendP hl hcal hc hop hg hfv hargs hren hx hL1 ?_ ?_
  · rw [e]; exact hd
  · rw [e, hx']; exact next
end
end Go.SL
namespace Go.Proofs
open Go Go.SL
set_option maxRecDepth 100000
theorem ofc_one (F : Frm) (a b c d : Nat) : (ofc F a b c d).c.all SV.one = true := by
  simp +decide only [FC.one_eq, ofc, SV.one, Value.oneCell']
theorem rowren_tr (ρ : Nat → Nat) (F : Frm) : Option.map (SK.ren ρ) (trR F) = trR F := by
  unfold trR
  simp only [Option.map_some, SKren_row, renL_flat _ _ (lrow_flat _ _)]
theorem rowren_by (ρ : Nat → Nat) (b : List UInt8) : Option.map (SK.ren ρ) (bytR b) = bytR b := by
  unfold bytR
  simp only [Option.map_some, SKren_row, renL_flat _ _ (brow_flat _ _)]
theorem rowren_is (ρ : Nat → Nat) (F : Frm) : Option.map (SK.ren ρ) (isR F) = isR F := by
  unfold isR
  simp only [Option.map_some, SKren_row, renL_flat _ _ (idr_flat _ _)]
theorem ownR_ren (F : Frm) (ρ : Nat → Nat) : (ownR F).map (Option.map (SK.ren ρ)) = ownR F := by
  unfold ownR
  simp only [List.map_cons, List.map_nil, rowren_tr, rowren_is, rowren_by]
theorem bytL_ren (b : List UInt8) (ρ : Nat → Nat) : [bytR b].map (Option.map (SK.ren ρ)) = [bytR b] := by
  simp only [List.map_cons, List.map_nil, rowren_by]
theorem bytL_nom (b : List UInt8) : nomK [bytR b] := by
  intro i z n own ty el h e he
  match i, h with
  | 0, h => cases h; exact brow_nom _ _
  | i + 1, h => simp at h
theorem frmA_flat (F : Frm) : SV.flatL [.agg F.fc.c] = true := by
  simp only [flatL_cons, flatL_nil, flat_agg, frmF_flat, Bool.and_self]
theorem bodyA_flat (F : Frm) : SV.flatL [bodyV F] = true := by
  simp only [flatL_cons, flatL_nil, bodyV_flat, Bool.and_self]
theorem bslA_flat (b : List UInt8) : SV.flatL [bsl b] = true := by
  simp only [flatL_cons, flatL_nil, bsl_flat, Bool.and_self]
def xoF (l : List UInt8) (e : Nat) : List SV := [.v (.int .u8 (ibits .xor .u8 ((l.getD e 0).toNat : Int) 255))]
theorem ownR_wk {ρ : Nat → Nat} {L : List (Option SK)} (F : Frm) {i j k m : Nat} (h1 : getL L i = trR F) (h2 : getL L j = isR F) (h3 : getL L k = bytR F.val) (h4 : getL L m = bytR F.tx) : wkL nofz ρ L [i, j, k, m] (ownR F) := by
  refine And.intro ?_ (And.intro ?_ (And.intro ?_ (And.intro ?_ trivial)))
  · rw [h1]; exact EntK_flat fun e => lrow_flat _ _
  · rw [h2]; exact EntK_flat fun e => idr_flat _ _
  · rw [h3]; exact EntK_flat fun e => brow_flat _ _
  · rw [h4]; exact EntK_flat fun e => brow_flat _ _
def ownqb33 :=
  (aI (aI (aI (aI ownqc6 ownqc0) (aI @FC.c_length @I16.c_length)) (aI (aI @I16.flat @IC.c_length) (aI @brow_flat (aI @bsl_flat @frmF_flat)))) (aI (aI (aI @frmc_one @idr_flat) (aI @idrs_flat (aI @lrow_flat @lrows_flat))) (aI (aI @ofc_one @zD.eq_1) (aI @zE.eq_1 (aI @zH.eq_1 @zK.eq_1)))))
def ownqc7 :=
  (aI (aI @List.replicate_succ.{0} @List.replicate_zero.{0}) (aI @brows_length @sop_inv))
def ownqb34 :=
  (aI (aI (aI (aI ownqc2 (aI ownqc7 ownqc3)) (aI ownqc4 (aI ownqc5 @FC.c_length))) (aI (aI @FC.ent (aI @I16.c_length @I16.part)) (aI @IC.c_length (aI @al149 @tab.a35)))) (aI (aI (aI @tab.a37 (aI @tab.a5 @tab.f149x0)) (aI @tab.f149x1 (aI @tab.f149x2 @tab.s145))) (aI (aI @tab.s2 (aI @tab.s35 @tab.s37)) (aI (aI @tab.s5 @tab.u145) (aI @tab.u181 @tab.u35)))))
def ownqb35 :=
  (aI (aI (aI (aI ownqc3 ownqc4) (aI ownqc5 @tab.a35)) (aI (aI @tab.a37 @tab.a5) (aI @tab.f149x0 @tab.f149x1))) (aI (aI (aI @tab.f149x2 @tab.s145) (aI @tab.s2 @tab.s35)) (aI (aI @tab.s37 @tab.s5) (aI @tab.u145 (aI @tab.u181 @tab.u35)))))
def ownqb36 :=
  (aI (aI (aI (aI ownqc2 (aI ownqc7 ownqc3)) (aI (aI ownqc4 ownqc5) (aI @FC.c_length @FC.ent))) (aI (aI (aI @I16.c_length @I16.part) (aI @IC.c_length @al149)) (aI (aI @bwk_a @eq_self.{1}) (aI @forall_const.{1} @implies_true.{0})))) (aI (aI (aI (aI @implies_true.{1} @rowK_zero) (aI @tab.a35 @tab.a37)) (aI (aI @tab.a5 @tab.f149x0) (aI @tab.f149x1 @tab.f149x2))) (aI (aI (aI @tab.s145 @tab.s2) (aI @tab.s35 @tab.s37)) (aI (aI @tab.s5 @tab.u145) (aI @tab.u181 @tab.u35)))))
def ownqb37 :=
  (aI (aI (aI (aI ownqc2 (aI ownqc7 ownqc3)) (aI (aI ownqc4 ownqc5) (aI @FC.c_length @FC.ent))) (aI (aI @I16.c_length (aI @I16.part @IC.c_length)) (aI (aI @al149 @brow_cell0) (aI @rowK_at @sstore2_nint)))) (aI (aI (aI @tab.a35 (aI @tab.a37 @tab.a5)) (aI (aI @tab.f149x0 @tab.f149x1) (aI @tab.f149x2 @tab.s145))) (aI (aI @tab.s2 (aI @tab.s35 @tab.s37)) (aI (aI @tab.s5 @tab.u145) (aI @tab.u181 @tab.u35)))))
def ownqb38 :=
  (aI (aI (aI (aI ownqc2 (aI ownqc7 ownqc3)) (aI (aI ownqc4 ownqc5) (aI @FC.c_length @FC.ent))) (aI (aI (aI @I16.c_length @I16.part) (aI @IC.c_length @al149)) (aI (aI @bwk_a @eq_self.{1}) (aI @forall_const.{1} @implies_true.{0})))) (aI (aI (aI @implies_true.{1} (aI @tab.a35 @tab.a37)) (aI (aI @tab.a5 @tab.f149x0) (aI @tab.f149x1 @tab.f149x2))) (aI (aI (aI @tab.s145 @tab.s2) (aI @tab.s35 @tab.s37)) (aI (aI @tab.s5 @tab.u145) (aI @tab.u181 @tab.u35)))))
def ownqb39 :=
  (aI (aI (aI ownqc6 @I16.flat) (aI @brow_flat @bsl_flat)) (aI (aI @frmF_flat @idr_flat) (aI @idrs_flat (aI @lrow_flat @lrows_flat))))
set_option maxHeartbeats 8000000 in
theorem frameNew_good (F : Frm) (hw : F.wf) (h : encOk F = true) : Pure Try.prog 36 [.agg F.fc.c] (.v (.bool true)) := by
  have hg := (encOk_good F hw).1 h
  have hl := bytes_len F hg
  have h8 : F.tr.length * 8 ≤ 140737488355328 := wfC hw
  have h9 : F.is.length * 16 ≤ 140737488355328 := wfD hw
  have h10 : F.tx.length ≤ 140737488355328 := wfB hw
  have h11 : F.val.length ≤ 140737488355328 := wfA hw
  have c1 := copy_own F h8 h9 h10 h11
  unfold OwnF at c1
  have c2 := encode_own F hw h
  have c3 := of_own F hw hg
  have c4 := plain_own F hw hg
  have c5 := decode_own F hg (by omega)
  have c6 := spoil_calls F h8 h9 h10 h11
  have hsame := same_refl F (by omega) (by omega)
  obtain ⟨bt, bx, hbx⟩ := bodyV_ifc F
  have hbf := bodyA_flat F
  rw [hbx] at c4 hbf
  have hbx' : (SV.ifc bt bx).flat = true := by rw [← hbx]; exact bodyV_flat F
  have hb_flat : bx.flat = true := hbx'
  have cP : Pure Try.prog 123 [.ifc bt bx] (.agg F.fc.c) := SCall.tell [] c4 ⟨rfl, rfl, rfl, rfl, rfl, rfl, ⟨⟨_, rfl, ofc_given F 0 1 2 3 rfl rfl rfl rfl⟩, trivial⟩, trivial⟩
  generalize bytesB F = b at *
  refine SCall.mk (fn := Try.f36) (by kernel_rfl) rfl (Nat.le_of_ble_eq_true (by kernel_rfl)) ?_
  refine goC ?_
  simp -dsimp +decide (disch := first | omega | simp +decide only [ownqb33, hb_flat]) only [ownqb34, ↓brun_b, envOf, Nat.reduceBEq]
  refine SemOps.lendQ Lent.refl cal.f107 c1 rfl rfl rfl rfl (frmA_flat F) (ofc_nom F _ _ _ _) (ownR_nom F) (ownR_ren F) (x' := .agg (ofc F 1 2 3 4).c) (by rw [ofc_renA]; rfl) (by simp -dsimp +decide (disch := first | omega | simp +decide only [ownqb33, hb_flat]) only []) ?_
  refine goK ?_
  simp -dsimp +decide (disch := first | omega | simp +decide only [ownqb33, hb_flat]) only [ownqb34, ↓brun_b, Nat.reduceAdd, Nat.reduceBEq, ownR, trR, isR, bytR]
  refine SemOps.lendQ (Lent.frzE 16 (.agg F.fc.c) [1, 2, 3, 4] ⟨_, rfl, ofc_given F 1 2 3 4 rfl rfl rfl rfl⟩) cal.f114 c2 rfl rfl rfl rfl (frmA_flat F) rfl (bytL_nom b) (bytL_ren b) (x' := .tup [.slc 6 0 b.length, .v (.int .i64 0)]) rfl (by simp -dsimp +decide (disch := first | omega | simp +decide only [ownqb33, hb_flat]) only []) ?_
  refine goK ?_
  simp -dsimp +decide (disch := first | omega | simp +decide only [ownqb33, hb_flat]) only [ownqb34, ↓brun_b, Nat.reduceAdd, Nat.reduceBEq, bytR]
  refine SemOps.lendQ (Lent.frzE 24 (.agg F.fc.c) [1, 2, 3, 4] ⟨_, rfl, ofc_given F 1 2 3 4 rfl rfl rfl rfl⟩) cal.f119 c3 rfl rfl rfl rfl (frmA_flat F) (by show ((bodyO F 0 1 2 3).nom && _) = true; rw [bodyO_nom]; rfl) (ownR_nom F) (ownR_ren F) (x' := .tup [bodyO F 7 8 9 10, .v (.bool true)]) (by show SV.tup [SV.ren _ (bodyO F 0 1 2 3), _] = _; rw [bodyO_ren]; rfl) (by simp -dsimp +decide (disch := first | omega | simp +decide only [ownqb33, hb_flat]) only []) ?_
  refine Lent.ops (Lent.frzE 25 (.tup [.ifc bt bx, .v (.bool true)]) [7, 8, 9, 10] ⟨_, rfl, _, _, rfl, by rw [← hbx]; exact body_given F 7 8 9 10 rfl rfl rfl rfl, _, _, rfl, rfl, rfl⟩) ?_
  refine goK ?_
  simp -dsimp +decide (disch := first | omega | simp +decide only [ownqb33, hb_flat]) only [ownqb34, ↓brun_b, Nat.reduceAdd, Nat.reduceBEq, ownR, trR, isR, bytR, noneL, List.contains, List.elem]
  refine SemOps.lendQ Lent.refl cal.f123 c4 rfl rfl rfl rfl hbf (ofc_nom F _ _ _ _) (ownR_nom F) (ownR_ren F) (x' := .agg (ofc F 11 12 13 14).c) (by rw [ofc_renA]; rfl) (by simp -dsimp +decide (disch := first | omega | simp +decide only [ownqb33, hb_flat]) only []) ?_
  refine goK ?_
  simp -dsimp +decide (disch := first | omega | simp +decide only [ownqb33, hb_flat]) only [ownqb34, ↓brun_b, Nat.reduceAdd, Nat.reduceBEq, ownR, trR, isR, bytR]
  refine SemOps.lendQ Lent.refl cal.f123 c4 rfl rfl rfl rfl hbf (ofc_nom F _ _ _ _) (ownR_nom F) (ownR_ren F) (x' := .agg (ofc F 15 16 17 18).c) (by rw [ofc_renA]; rfl) (by simp -dsimp +decide (disch := first | omega | simp +decide only [ownqb33, hb_flat]) only []) ?_
  refine Lent.ops (Lent.frzE 37 (.agg F.fc.c) [15, 16, 17, 18] ⟨_, rfl, ofc_given F 15 16 17 18 rfl rfl rfl rfl⟩) ?_
  refine goK ?_
  simp -dsimp +decide (disch := first | omega | simp +decide only [ownqb33, hb_flat]) only [ownqb34, ↓brun_b, Nat.reduceAdd, Nat.reduceBEq, ownR, trR, isR, bytR, noneL, List.contains, List.elem]
  refine SemOps.lendQ (Lent.frzE 39 (bsl b) [6] (given_by b rfl)) cal.f117 c5 rfl rfl rfl rfl (bslA_flat b) (by show (SV.nomL _ && _) = true; rw [ofc_nom]; rfl) (ownR_nom F) (ownR_ren F) (x' := .tup [.agg (ofc F 21 22 23 24).c, .v (.int .i64 0)]) (by show SV.tup [SV.ren _ (.agg (ofc F 0 1 2 3).c), _] = _; rw [ofc_renA]; rfl) (by simp -dsimp +decide (disch := first | omega | simp +decide only [ownqb33, hb_flat]) only []) ?_
  refine Lent.ops (Lent.frzE 40 (.tup [.agg F.fc.c, .v (.int .i64 0)]) [21, 22, 23, 24] ⟨_, rfl, _, _, rfl, ⟨_, rfl, ofc_given F 21 22 23 24 rfl rfl rfl rfl⟩, _, _, rfl, rfl, rfl⟩) ?_
  refine goK ?_
  simp -dsimp +decide (disch := first | omega | simp +decide only [ownqb33, hb_flat]) only [ownqb34, ↓brun_b, Nat.reduceAdd, Nat.reduceBEq, ownR, trR, isR, bytR, noneL, List.contains, List.elem]
  refine SemOps.callw [1, 2, 3, 4] cal.f124 c6 rfl rfl rfl ⟨_, _, rfl, ⟨_, rfl, FC.entX (ofc F 0 1 2 3) (ofc F 1 2 3 4) rfl rfl rfl rfl rfl rfl rfl rfl rfl rfl rfl rfl rfl rfl rfl rfl rfl rfl rfl rfl⟩, rfl⟩ rfl (ownR_wk F rfl rfl rfl rfl) (dK rfl) ?_
  refine goK ?_
  simp -dsimp +decide (disch := first | omega | simp +decide only [ownqb33, hb_flat]) only [ownqb34, ↓brun_b, Nat.reduceAdd, Nat.reduceBEq, ownR, trR, isR, bytR]
  refine SemOps.callw [11, 12, 13, 14] cal.f124 c6 rfl rfl rfl ⟨_, _, rfl, ⟨_, rfl, FC.entX (ofc F 0 1 2 3) (ofc F 11 12 13 14) rfl rfl rfl rfl rfl rfl rfl rfl rfl rfl rfl rfl rfl rfl rfl rfl rfl rfl rfl rfl⟩, rfl⟩ rfl (ownR_wk F rfl rfl rfl rfl) (dK rfl) ?_
  refine goK ?_
  simp -dsimp +decide (disch := first | omega | simp +decide only [ownqb33, hb_flat]) only [ownqb34, ↓brun_b, Nat.reduceAdd, Nat.reduceBEq, ownR, trR, isR, bytR]
  refine Sem.loop (ι := {k : Nat // k ≤ b.length}) (fun k => ⟨76, 0, [(1, .ptr 0 0 0), (9, .ptr 2 0 0), (10, .ptr 3 0 0), (6, .ifc bt bx), (4, .slc 1 0 b.length), (48, .v (.int .i64 (b.length : Int))), (49, .v (.int .i64 (k.1 : Int)))], [some (.row ⟨95, 1, true, 151, fun _ => F.fc.c⟩), some (.row ⟨1, b.length, true, 5, rowK (brow b) (xoF b) k.1⟩), some (.row ⟨95, 1, true, 151, fun _ => F.fc.c⟩), some (.row ⟨95, 1, true, 151, fun _ => F.fc.c⟩)]⟩) (fun k => b.length - k.1) ⟨0, by omega⟩ [0, 6, 20, 25] ?_ ?_
  · (refine Wk.ofC ?_; simp -dsimp +decide (disch := first | omega | simp +decide only [ownqb33, hb_flat]) only [ownqb36, ↓brun_b, Nat.reduceAdd, Nat.reduceBEq])
  · rintro ⟨k, hk⟩
    refine goC ?_
    simp -dsimp +decide (disch := first | omega | simp +decide only [ownqb33, hb_flat]) only [ownqb34, ↓brun_b, Nat.reduceAdd, Nat.reduceBEq]
    refine SCond.split (fun h => ?_) (fun h => ?_)
    · simp only [decide_eq_true_eq] at h
      have hk' : k < b.length := by omega
      have hw : IntKind.i64.wrap ((k : Int) + 1) = ((k + 1 : Nat) : Int) := by rw [wrap_i64 _ (by omega)]; rfl
      simp -dsimp +decide (disch := first | omega | simp +decide only [ownqb33, hb_flat]) only [ownqb37, ↓brun_b, Nat.reduceAdd, Nat.reduceBEq, hw]
      repeat (refine And.intro (by omega) ?_)
      refine ⟨⟨k + 1, by omega⟩, [0, 1, 2, 3], ?_, by show b.length - (k + 1) < b.length - k; omega⟩
      (refine Wk.ofC ?_; simp -dsimp +decide (disch := first | omega | simp +decide only [ownqb33, hb_flat]) only [ownqb38, ↓brun_b, Nat.reduceAdd, Nat.reduceBEq])
      intro e he
      rw [rowK_step hk' he rfl]
      exact EntL.self (rowK_flat (brow_flat _) (fun _ => rfl) _ _)
    · simp -dsimp +decide (disch := first | omega | simp +decide only [ownqb33, hb_flat]) only [ownqb34, reduceIte]
      refine Sem.draw' (by kernel_rfl) (.alt 0 (.one 1 (.one 2 (.one 3 (.alt 4 (.one 5 (.one 6 (.one 7 (.one 8 (.alt 9 (.one 10 (.one 11 (.one 12 (.one 14 (.alt 13 (.alt 15 (.one 16 (.one 17 .done)) .non) .non))))) .non))))) .non)))) .non) [] (by kernel_rfl) (fun G ff hG hf => ?_)
      simp +decide only [ownqb7, Nat.reduceAdd] at hG ⊢
      simp -dsimp +decide (disch := first | omega | simp +decide only [ownqb33, hb_flat]) only [ownqb34, ↓brun_b, Nat.reduceAdd]
      refine OpSem.callq cal.f116 (fixed4_calls) rfl rfl rfl (by simp only [bflat_a]) (by simp only [bflat_a]) (dK rfl) ?_
      simp -dsimp +decide (disch := first | omega | simp +decide only [ownqb33, hb_flat]) only [ownqb34, ↓brun_b, Nat.reduceAdd, Nat.reduceBEq, hG]
      refine OpSem.callq cal.f104 (hsame) rfl rfl rfl (by simp only [bflat_a, ownqb39]) (by simp only [bflat_a]) (dK rfl) ?_
      simp -dsimp +decide (disch := first | omega | simp +decide only [ownqb33, hb_flat]) only [ownqb34, ↓brun_b, Nat.reduceAdd, Nat.reduceBEq, hG]
      refine OpSem.callq cal.f104 (hsame) rfl rfl rfl (by simp only [bflat_a, ownqb39]) (by simp only [bflat_a]) (dK rfl) ?_
      simp -dsimp +decide (disch := first | omega | simp +decide only [ownqb33, hb_flat]) only [ownqb34, ↓brun_b, Nat.reduceAdd, Nat.reduceBEq, hG]
      refine OpSem.callq cal.f123 (cP) rfl rfl rfl (by simp only [bflat_a, hb_flat]) (by simp only [bflat_a, ownqb39]) (dK rfl) ?_
      simp -dsimp +decide (disch := first | omega | simp +decide only [ownqb33, hb_flat]) only [ownqb34, ↓brun_b, Nat.reduceAdd, Nat.reduceBEq]
      refine OpSem.callq cal.f104 (hsame) rfl rfl rfl (by simp only [bflat_a, ownqb39]) (by simp only [bflat_a]) (dK rfl) ?_
      simp -dsimp +decide (disch := first | omega | simp +decide only [ownqb33, hb_flat]) only [ownqb34, ↓brun_b, Nat.reduceAdd, Nat.reduceBEq]
      refine hf _ (Sem.go (k := 1000) ?_)
      simp +decide only [back_mk, backL_row, backL_nil, Nat.zero_add, Nat.reduceAdd]
      simp -dsimp +decide (disch := first | omega | simp +decide only [ownqb33, hb_flat]) only [ownqb34]
      refine SQ.answer (rs := [.tmp 2]) rfl rfl ?_
      simp -dsimp +decide (disch := first | omega | simp +decide only [ownqb33, hb_flat]) only [ownqb38, ↓brun_b, Nat.reduceAdd, rho]
end Go.Proofs
