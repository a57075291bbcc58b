/- WireBack: for every input the law returns true, and each argument reads afterwards as it read before. No condition. -/
import Derived.Test.YtheodenjjaoncaaRows
import Derived.Test.YtheodenjjaoncaaWireO
import Derived.Test.YtheodenjjaoncaaUptoA
import Derived.Test.YtheodenjjaoncaaFacts
import Derived.WalkKit
import Derived.ProofKit
import Derived.OpenShut
import Derived.ShutString
import Derived.ChangeOld
import Derived.Below
import Derived.SizedLaws
import Derived.Carry
import Derived.JoinedCond
import Derived.Deep.CondSized
set_option linter.unusedVariables false
set_option linter.unusedSimpArgs false
namespace Go.Proofs.Ytheodenjjaoncaa.wireBack
open Go Go.SL Go.ChangeShapes Go.WideShapes Go.ChangeAt Go.RowKit
set_option linter.unusedVariables false
theorem own : ownKnob Try.prog.godebug = none := by kernel_rfl
theorem laidOut : laidOutB Try.prog = true := Facts.laidOut
set_option maxRecDepth 100000 in
theorem lifted (os : Os) (started : os.Started) (H : Type) (enc : TypeId × Value → H) (F : Stop.Interp) :
    ReturnsInHanded {} Try.checked os 15 .any ((Rows.OpenSpec.upto Rows.wireBackSpec).pre6 enc Try.prog Try.f15 Rows.wireBackUptoRow.domain false) (((Rows.OpenSpec.upto Rows.wireBackSpec).at F).post enc Try.prog Try.f15 false true false false) := by
  refine returnsInHanded_of_cond_sized (C := Try.checked) (s := Rows.OpenSpec.upto Rows.wireBackSpec) (k := Rows.uptoSmall) rfl own started (by kernel_rfl) Try.func15
    (OpenSpec.witness (enc := enc) (C := Try.checked) (s := Rows.OpenSpec.upto Rows.wireBackSpec) (k := Rows.uptoSmall) rfl false ⟨#[], #[Value.int IntKind.u64 (0 : Int), Value.slice none 0 0, Value.slice none 0 0], []⟩ 8 (by kernel_rfl) (by kernel_rfl) (by kernel_rfl)
      (x := ([.lit (.int IntKind.u64 (0 : Int)), .nil, .nil], [], [])) (by kernel_rfl) rfl (by kernel_rfl)) ?_
  intro W base args ds gs before hval0 hW _ hk0 hsz0 _
  have hsz : (DataW.weightsEach Try.prog (Try.f15.params.toList ++ Rows.wireBackSpec.plain.varTypes Try.prog) (ds ++ gs)).all (· ≤ reachBytes) = true := hsz0
  have hval : ∀ (j : Nat) t v, Try.f15.params[j]? = some t → args[j]? = some v → Value.okWide Try.prog W .any base t v := hval0
  have hW' := hW
  obtain ⟨p, q, hA0, hV, rfl, hfz, hnd⟩ := hW
  have hA : DataW.TrodAll enc Try.prog W 0 (fun _ => true) true Try.f15.params.toList args.toList ds p := hA0
  rw [Try.params15] at hA hval hsz
  obtain ⟨v0, vs0, d0, ds0, p0, q0, hargs, rfl, rfl, h0, r0⟩ := trodAll_cons hA
  obtain ⟨v1, vs1, d1, ds1, p1, q1, rfl, rfl, rfl, h1, r1⟩ := trodAll_cons r0
  obtain ⟨v2, vs2, d2, ds2, p2, q2, rfl, rfl, rfl, h2, r2⟩ := trodAll_cons r1
  obtain ⟨rfl, rfl, rfl⟩ := trodAll_nil r2
  obtain rfl : args = #[v0, v1, v2] := by cases args; simp_all
  obtain ⟨rfl, rfl⟩ := trodVars_none hV
  have k0 := h0
  have lt0 : ∀ x ∈ p0, x.block < W.heap.size := by obtain ⟨m, hm⟩ := k0; exact DataW.trod_lt m _ _ _ hm
  obtain ⟨l0, x0, c0, e0, y0⟩ := arg_abs (g := false) (fun _ => rfl) 20 (by kernel_rfl) (by kernel_rfl) (hval 0 36 v0 rfl rfl) h0 (weightsEach_get hsz 0 36 d0 rfl rfl)
  have k1 := h1
  have lt1 : ∀ x ∈ p1, x.block < W.heap.size := by obtain ⟨m, hm⟩ := k1; exact DataW.trod_lt m _ _ _ hm
  obtain ⟨l1, x1, c1, e1, y1⟩ := arg_abs (g := false) (fun _ => rfl) 20 (by kernel_rfl) (by kernel_rfl) (hval 1 35 v1 rfl rfl) h1 (weightsEach_get hsz 1 35 d1 rfl rfl)
  have k2 := h2
  have lt2 : ∀ x ∈ p2, x.block < W.heap.size := by obtain ⟨m, hm⟩ := k2; exact DataW.trod_lt m _ _ _ hm
  obtain ⟨l2, x2, c2, e2, y2⟩ := arg_abs (g := false) (fun _ => rfl) 20 (by kernel_rfl) (by kernel_rfl) (hval 2 35 v2 rfl rfl) h2 (weightsEach_get hsz 2 35 d2 rfl rfl)
  have hk : Rows.uptoBulkAll [d0, d1, d2] ≤ 1048576 := of_decide_eq_true hk0
  simp only [Rows.uptoBulkAll] at hk
  have z1 : ∀ s rows, cellAt l1 0 = .rsl s rows → rows.length ≤ 1048576 := fun s rows e => by
    have y := y1
    rw [e1] at y
    have y2 : RelV (roAll W) (.rsl s rows) v1 := by rw [← e]; exact y
    have := bulk_arg tab.u35 k1 y2
    omega
  have z2 : ∀ s rows, cellAt l2 0 = .rsl s rows → rows.length ≤ 1048576 := fun s rows e => by
    have y := y2
    rw [e2] at y
    have y2 : RelV (roAll W) (.rsl s rows) v2 := by rw [← e]; exact y
    have := bulk_arg tab.u35 k2 y2
    omega
  clear hA0 hval0 hsz0 hsz
  refine (pure_row (wireBack_law l0 l1 l2 c0 c1 c2 z1 z2) ⟨_, _, rfl, by rw [e0] at y0; exact y0, ⟨_, _, rfl, by rw [e1] at y1; exact y1, ⟨_, _, rfl, by rw [e2] at y2; exact y2, rfl⟩⟩⟩).mono fun e W' ⟨he, bel⟩ => ?_
  subst he
  exact ⟨_, rfl, _, _, _, [], _, [], hW', trodAll_mk1 (shut_bool Try.underlying4 _), (trodAll_cons_mk (Below.trod laidOut (by kernel_rfl) (of_decide_eq_true (by kernel_rfl)) k0 bel lt0) (trodAll_cons_mk (Below.trod laidOut (by kernel_rfl) (of_decide_eq_true (by kernel_rfl)) k1 bel lt1) (trodAll_cons_mk (Below.trod laidOut (by kernel_rfl) (of_decide_eq_true (by kernel_rfl)) k2 bel lt2) trodAll_mk0))), rfl, bel.frame _, fun h => by cases h⟩
theorem k9 : ((Rows.wireBackUptoRow.inPlace == Try.prog.inPlace 15)) = true := by kernel_rfl
theorem k10 : ((Rows.wireBackUptoRow.unfollowed == Try.prog.unfollowed 15)) = true := by kernel_rfl
theorem k11 : ((Rows.wireBackUptoRow.recurses == Try.prog.recurses 15)) = true := by kernel_rfl
theorem k12 : ((Rows.wireBackUptoRow.named == Try.prog.varsNamed 15)) = true := by kernel_rfl
theorem closed : joinedFacts Try.prog 15 Try.f15 Rows.wireBackSpec Rows.wireBackUptoRow = true :=
  Facts.joined_of _ _ _ _ _ (by kernel_rfl) Facts.laidOut Facts.mapsRowed (by kernel_rfl) (by kernel_rfl) (by kernel_rfl) Facts.stops (by kernel_rfl) Facts.knobs k9 k10 k11 k12 (by kernel_rfl) (by kernel_rfl) (by kernel_rfl) (by kernel_rfl) (by kernel_rfl) (by kernel_rfl) (by kernel_rfl) (by kernel_rfl) (by kernel_rfl) (by rw [Facts.keys]; rfl) (by kernel_rfl) Facts.heard Facts.mayEnter (by rw [Facts.lifts]; rfl) (by rw [Facts.make]; rfl) (by kernel_rfl) (by kernel_rfl) (by kernel_rfl) (by kernel_rfl)
set_option maxRecDepth 100000 in
theorem over : Rows.wireBackUptoRow.holds Try.pinned (Rows.OpenSpec.upto Rows.wireBackSpec) :=
  OpenClaim.holds_of_cond 15 Try.f15 rfl rfl rfl rfl rfl rfl rfl ⟨rfl, rfl, rfl, rfl, rfl⟩ rfl rfl rfl rfl rfl (by kernel_rfl) Try.func15 closed
    (of_decide_eq_true (by kernel_rfl)) (by unfold Func.isWrapper; first | (rw [if_pos (by decide +kernel)]; kernel_rfl) | (rw [if_neg (by decide +kernel)]; exact ⟨rfl, rfl⟩))
    (fun os started H enc _ F => lifted os started H enc F)
theorem proved : Rows.WireBackUptoSaid := over
#print axioms proved
end Go.Proofs.Ytheodenjjaoncaa.wireBack
namespace Go.Proofs.Ytheodenjjaoncaa
theorem wireBack_holds : Rows.WireBackUptoSaid := wireBack.proved
end Go.Proofs.Ytheodenjjaoncaa
