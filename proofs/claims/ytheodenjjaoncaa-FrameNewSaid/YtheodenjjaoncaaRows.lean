/-
  No cell of these rows narrows 'for every input' (looked for: loops, veiled, ifaces, maps, wideKeys, modest, calm, conditions, laid).
  DERIVED. THE GIVEN ROWS OF THIS SEAT. 34 by the template 'for every input the law returns true; each argument reads behind the call as it read before'; 0 by the template 'total and deterministic' (their statements: YtheodenjjaoncaaTotals.lean).
  GIVEN WITH THE SEED: the statements are not yours to turn. If you find one false, say at which input.
  Laid BY PROGRAM, IN A SANDBOX (cutbox-rows.mjs): the forced cells as the released guide's own fill.sh prints them over the translation e1146a1cbdfe9ab5… (all of the seat's roots in one cut). By AI agents, Wed Nov 11 2026. No macro, syntax, notation, axiom, sorry.
-/
import Derived.Test.YtheodenjjaoncaaChecked
import GoSem.Claim
import GoSem.ClaimJoined
import GoSem.ClaimMapViews
import Derived.JoinedTies
import Derived.KernelRfl
namespace Go.Proofs.Ytheodenjjaoncaa
/- THE CELL 'sum', in the pinned program and in every row, IS THE sha256 OF THE DUMP (.gsa) THAT YtheodenjjaoncaaProg.lean LOADS. Nothing in Lean hashes anything: it is a label: what it is worth is what the hold of that sum in a sandbox is worth. -/
noncomputable def Try.pinned : Pinned := { name := "ytheodenjjaoncaa", sum := "e1146a1cbdfe9ab54cdab671243134c7fbfd9e3e4514171526311f1a638ac786", checked := Try.checked }
namespace Rows
def none {H : Type} : Left H := { results := [], args := [] }

/-- 'annuletlaw16.RepBests': WHATEVER THE INPUT: true; the input reads as it did. -/
def repBestsSpec : ChangeSpec := { name := "repBests", fn := fun _ => fun
  | [d1, d2] => { results := [.lit (.bool true)], args := [d1, d2] }
  | _ => none }
def repBestsRow : OpenClaim := { program := "ytheodenjjaoncaa", sum := "e1146a1cbdfe9ab54cdab671243134c7fbfd9e3e4514171526311f1a638ac786", func := "annulet/annuletlaw16.RepBests", spec := "repBests", inPlace := ["internal/bytealg.Compare"], apart := false }
def RepBestsSaid : Prop := repBestsRow.holds Try.pinned (OpenSpec.ofChange repBestsSpec)

/-- ITS FALSE NEIGHBOUR: 'it returns false'. Refute it at one input. -/
def repBestsWrong : ChangeSpec := { name := "repBests", fn := fun _ => fun
  | [d1, d2] => { results := [.lit (.bool false)], args := [d1, d2] }
  | _ => none }
def RepBestsWrongFalsely : Prop := repBestsRow.holds Try.pinned (OpenSpec.ofChange repBestsWrong)

/-- 'annuletlaw16.RepLeast': WHATEVER THE INPUT: true; the input reads as it did. -/
def repLeastSpec : ChangeSpec := { name := "repLeast", fn := fun _ => fun
  | [d1, d2] => { results := [.lit (.bool true)], args := [d1, d2] }
  | _ => none }
def repLeastRow : OpenClaim := { program := "ytheodenjjaoncaa", sum := "e1146a1cbdfe9ab54cdab671243134c7fbfd9e3e4514171526311f1a638ac786", func := "annulet/annuletlaw16.RepLeast", spec := "repLeast", inPlace := ["internal/bytealg.Compare"], apart := false }
def RepLeastSaid : Prop := repLeastRow.holds Try.pinned (OpenSpec.ofChange repLeastSpec)

/-- ITS FALSE NEIGHBOUR: 'it returns false'. Refute it at one input. -/
def repLeastWrong : ChangeSpec := { name := "repLeast", fn := fun _ => fun
  | [d1, d2] => { results := [.lit (.bool false)], args := [d1, d2] }
  | _ => none }
def RepLeastWrongFalsely : Prop := repLeastRow.holds Try.pinned (OpenSpec.ofChange repLeastWrong)

/-- 'annuletlaw03.WireOne': WHATEVER THE INPUT: true; the input reads as it did. -/
def wireOneSpec : ChangeSpec := { name := "wireOne", fn := fun _ => fun
  | [d] => { results := [.lit (.bool true)], args := [d] }
  | _ => none }
def wireOneRow : OpenClaim := { program := "ytheodenjjaoncaa", sum := "e1146a1cbdfe9ab54cdab671243134c7fbfd9e3e4514171526311f1a638ac786", func := "annulet/annuletlaw03.WireOne", spec := "wireOne", apart := false }
def WireOneSaid : Prop := wireOneRow.holds Try.pinned (OpenSpec.ofChange wireOneSpec)

/-- ITS FALSE NEIGHBOUR: 'it returns false'. Refute it at one input. -/
def wireOneWrong : ChangeSpec := { name := "wireOne", fn := fun _ => fun
  | [d] => { results := [.lit (.bool false)], args := [d] }
  | _ => none }
def WireOneWrongFalsely : Prop := wireOneRow.holds Try.pinned (OpenSpec.ofChange wireOneWrong)

/-- 'annuletlaw03.WireFree': WHATEVER THE INPUT: true; the input reads as it did. -/
def wireFreeSpec : ChangeSpec := { name := "wireFree", fn := fun _ => fun
  | [d1, d2] => { results := [.lit (.bool true)], args := [d1, d2] }
  | _ => none }
def wireFreeRow : OpenClaim := { program := "ytheodenjjaoncaa", sum := "e1146a1cbdfe9ab54cdab671243134c7fbfd9e3e4514171526311f1a638ac786", func := "annulet/annuletlaw03.WireFree", spec := "wireFree", apart := false }
def WireFreeSaid : Prop := wireFreeRow.holds Try.pinned (OpenSpec.ofChange wireFreeSpec)

/-- ITS FALSE NEIGHBOUR: 'it returns false'. Refute it at one input. -/
def wireFreeWrong : ChangeSpec := { name := "wireFree", fn := fun _ => fun
  | [d1, d2] => { results := [.lit (.bool false)], args := [d1, d2] }
  | _ => none }
def WireFreeWrongFalsely : Prop := wireFreeRow.holds Try.pinned (OpenSpec.ofChange wireFreeWrong)

/-- 'annuletlaw03.WirePuts': WHATEVER THE INPUT: true; the input reads as it did. -/
def wirePutsSpec : ChangeSpec := { name := "wirePuts", fn := fun _ => fun
  | [d1, d2] => { results := [.lit (.bool true)], args := [d1, d2] }
  | _ => none }
def wirePutsRow : OpenClaim := { program := "ytheodenjjaoncaa", sum := "e1146a1cbdfe9ab54cdab671243134c7fbfd9e3e4514171526311f1a638ac786", func := "annulet/annuletlaw03.WirePuts", spec := "wirePuts", apart := false }
def WirePutsSaid : Prop := wirePutsRow.holds Try.pinned (OpenSpec.ofChange wirePutsSpec)

/-- ITS FALSE NEIGHBOUR: 'it returns false'. Refute it at one input. -/
def wirePutsWrong : ChangeSpec := { name := "wirePuts", fn := fun _ => fun
  | [d1, d2] => { results := [.lit (.bool false)], args := [d1, d2] }
  | _ => none }
def WirePutsWrongFalsely : Prop := wirePutsRow.holds Try.pinned (OpenSpec.ofChange wirePutsWrong)

/-- 'annuletlaw08.WindowPlays': WHATEVER THE INPUT: true; the input reads as it did. -/
def windowPlaysSpec : ChangeSpec := { name := "windowPlays", fn := fun _ => fun
  | [d] => { results := [.lit (.bool true)], args := [d] }
  | _ => none }
def windowPlaysRow : OpenClaim := { program := "ytheodenjjaoncaa", sum := "e1146a1cbdfe9ab54cdab671243134c7fbfd9e3e4514171526311f1a638ac786", func := "annulet/annuletlaw08.WindowPlays", spec := "windowPlays", apart := false }
def WindowPlaysSaid : Prop := windowPlaysRow.holds Try.pinned (OpenSpec.ofChange windowPlaysSpec)

/-- ITS FALSE NEIGHBOUR: 'it returns false'. Refute it at one input. -/
def windowPlaysWrong : ChangeSpec := { name := "windowPlays", fn := fun _ => fun
  | [d] => { results := [.lit (.bool false)], args := [d] }
  | _ => none }
def WindowPlaysWrongFalsely : Prop := windowPlaysRow.holds Try.pinned (OpenSpec.ofChange windowPlaysWrong)

/-- 'annuletlaw08.WindowOnce': WHATEVER THE INPUT: true; the input reads as it did. -/
def windowOnceSpec : ChangeSpec := { name := "windowOnce", fn := fun _ => fun
  | [d1, d2] => { results := [.lit (.bool true)], args := [d1, d2] }
  | _ => none }
def windowOnceRow : OpenClaim := { program := "ytheodenjjaoncaa", sum := "e1146a1cbdfe9ab54cdab671243134c7fbfd9e3e4514171526311f1a638ac786", func := "annulet/annuletlaw08.WindowOnce", spec := "windowOnce", apart := false }
def WindowOnceSaid : Prop := windowOnceRow.holds Try.pinned (OpenSpec.ofChange windowOnceSpec)

/-- ITS FALSE NEIGHBOUR: 'it returns false'. Refute it at one input. -/
def windowOnceWrong : ChangeSpec := { name := "windowOnce", fn := fun _ => fun
  | [d1, d2] => { results := [.lit (.bool false)], args := [d1, d2] }
  | _ => none }
def WindowOnceWrongFalsely : Prop := windowOnceRow.holds Try.pinned (OpenSpec.ofChange windowOnceWrong)

/-- 'annuletlaw08.WindowAcks': WHATEVER THE INPUT: true; the input reads as it did. -/
def windowAcksSpec : ChangeSpec := { name := "windowAcks", fn := fun _ => fun
  | [d1, d2] => { results := [.lit (.bool true)], args := [d1, d2] }
  | _ => none }
def windowAcksRow : OpenClaim := { program := "ytheodenjjaoncaa", sum := "e1146a1cbdfe9ab54cdab671243134c7fbfd9e3e4514171526311f1a638ac786", func := "annulet/annuletlaw08.WindowAcks", spec := "windowAcks", apart := false }
def WindowAcksSaid : Prop := windowAcksRow.holds Try.pinned (OpenSpec.ofChange windowAcksSpec)

/-- ITS FALSE NEIGHBOUR: 'it returns false'. Refute it at one input. -/
def windowAcksWrong : ChangeSpec := { name := "windowAcks", fn := fun _ => fun
  | [d1, d2] => { results := [.lit (.bool false)], args := [d1, d2] }
  | _ => none }
def WindowAcksWrongFalsely : Prop := windowAcksRow.holds Try.pinned (OpenSpec.ofChange windowAcksWrong)

/-- 'annuletlaw08.WindowNil': WHATEVER THE INPUT: true; the input reads as it did. -/
def windowNilSpec : ChangeSpec := { name := "windowNil", fn := fun _ => fun
  | [d1, d2] => { results := [.lit (.bool true)], args := [d1, d2] }
  | _ => none }
def windowNilRow : OpenClaim := { program := "ytheodenjjaoncaa", sum := "e1146a1cbdfe9ab54cdab671243134c7fbfd9e3e4514171526311f1a638ac786", func := "annulet/annuletlaw08.WindowNil", spec := "windowNil", apart := false }
def WindowNilSaid : Prop := windowNilRow.holds Try.pinned (OpenSpec.ofChange windowNilSpec)

/-- ITS FALSE NEIGHBOUR: 'it returns false'. Refute it at one input. -/
def windowNilWrong : ChangeSpec := { name := "windowNil", fn := fun _ => fun
  | [d1, d2] => { results := [.lit (.bool false)], args := [d1, d2] }
  | _ => none }
def WindowNilWrongFalsely : Prop := windowNilRow.holds Try.pinned (OpenSpec.ofChange windowNilWrong)

/-- 'annuletlaw16.RepComes': WHATEVER THE INPUT: true; the input reads as it did. -/
def repComesSpec : ChangeSpec := { name := "repComes", fn := fun _ => fun
  | [d] => { results := [.lit (.bool true)], args := [d] }
  | _ => none }
def repComesRow : OpenClaim := { program := "ytheodenjjaoncaa", sum := "e1146a1cbdfe9ab54cdab671243134c7fbfd9e3e4514171526311f1a638ac786", func := "annulet/annuletlaw16.RepComes", spec := "repComes", inPlace := ["internal/bytealg.Compare"], apart := false }
def RepComesSaid : Prop := repComesRow.holds Try.pinned (OpenSpec.ofChange repComesSpec)

/-- ITS FALSE NEIGHBOUR: 'it returns false'. Refute it at one input. -/
def repComesWrong : ChangeSpec := { name := "repComes", fn := fun _ => fun
  | [d] => { results := [.lit (.bool false)], args := [d] }
  | _ => none }
def RepComesWrongFalsely : Prop := repComesRow.holds Try.pinned (OpenSpec.ofChange repComesWrong)

/-- 'annuletlaw16.RepWay': WHATEVER THE INPUT: true; the input reads as it did. -/
def repWaySpec : ChangeSpec := { name := "repWay", fn := fun _ => fun
  | [d] => { results := [.lit (.bool true)], args := [d] }
  | _ => none }
def repWayRow : OpenClaim := { program := "ytheodenjjaoncaa", sum := "e1146a1cbdfe9ab54cdab671243134c7fbfd9e3e4514171526311f1a638ac786", func := "annulet/annuletlaw16.RepWay", spec := "repWay", inPlace := ["internal/bytealg.Compare"], apart := false }
def RepWaySaid : Prop := repWayRow.holds Try.pinned (OpenSpec.ofChange repWaySpec)

/-- ITS FALSE NEIGHBOUR: 'it returns false'. Refute it at one input. -/
def repWayWrong : ChangeSpec := { name := "repWay", fn := fun _ => fun
  | [d] => { results := [.lit (.bool false)], args := [d] }
  | _ => none }
def RepWayWrongFalsely : Prop := repWayRow.holds Try.pinned (OpenSpec.ofChange repWayWrong)

/-- 'annuletlaw16.RepNotes': WHATEVER THE INPUT: true; the input reads as it did. -/
def repNotesSpec : ChangeSpec := { name := "repNotes", fn := fun _ => fun
  | [d1, d2, d3] => { results := [.lit (.bool true)], args := [d1, d2, d3] }
  | _ => none }
def repNotesRow : OpenClaim := { program := "ytheodenjjaoncaa", sum := "e1146a1cbdfe9ab54cdab671243134c7fbfd9e3e4514171526311f1a638ac786", func := "annulet/annuletlaw16.RepNotes", spec := "repNotes", inPlace := ["internal/bytealg.Compare"], apart := false }
def RepNotesSaid : Prop := repNotesRow.holds Try.pinned (OpenSpec.ofChange repNotesSpec)

/-- ITS FALSE NEIGHBOUR: 'it returns false'. Refute it at one input. -/
def repNotesWrong : ChangeSpec := { name := "repNotes", fn := fun _ => fun
  | [d1, d2, d3] => { results := [.lit (.bool false)], args := [d1, d2, d3] }
  | _ => none }
def RepNotesWrongFalsely : Prop := repNotesRow.holds Try.pinned (OpenSpec.ofChange repNotesWrong)

/-- 'annuletlaw03.WireBack': WHATEVER THE INPUT: true; the input reads as it did. -/
def wireBackSpec : ChangeSpec := { name := "wireBack", fn := fun _ => fun
  | [d1, d2, d3] => { results := [.lit (.bool true)], args := [d1, d2, d3] }
  | _ => none }
def wireBackRow : OpenClaim := { program := "ytheodenjjaoncaa", sum := "e1146a1cbdfe9ab54cdab671243134c7fbfd9e3e4514171526311f1a638ac786", func := "annulet/annuletlaw03.WireBack", spec := "wireBack", apart := false }
def WireBackSaid : Prop := wireBackRow.holds Try.pinned (OpenSpec.ofChange wireBackSpec)

/-- ITS FALSE NEIGHBOUR: 'it returns false'. Refute it at one input. -/
def wireBackWrong : ChangeSpec := { name := "wireBack", fn := fun _ => fun
  | [d1, d2, d3] => { results := [.lit (.bool false)], args := [d1, d2, d3] }
  | _ => none }
def WireBackWrongFalsely : Prop := wireBackRow.holds Try.pinned (OpenSpec.ofChange wireBackWrong)

/-- 'annuletlaw03.WireNew': WHATEVER THE INPUT: true; the input reads as it did. -/
def wireNewSpec : ChangeSpec := { name := "wireNew", fn := fun _ => fun
  | [d] => { results := [.lit (.bool true)], args := [d] }
  | _ => none }
def wireNewRow : OpenClaim := { program := "ytheodenjjaoncaa", sum := "e1146a1cbdfe9ab54cdab671243134c7fbfd9e3e4514171526311f1a638ac786", func := "annulet/annuletlaw03.WireNew", spec := "wireNew", apart := false }
def WireNewSaid : Prop := wireNewRow.holds Try.pinned (OpenSpec.ofChange wireNewSpec)

/-- ITS FALSE NEIGHBOUR: 'it returns false'. Refute it at one input. -/
def wireNewWrong : ChangeSpec := { name := "wireNew", fn := fun _ => fun
  | [d] => { results := [.lit (.bool false)], args := [d] }
  | _ => none }
def WireNewWrongFalsely : Prop := wireNewRow.holds Try.pinned (OpenSpec.ofChange wireNewWrong)

/-- 'annuletlaw03.WireGets': WHATEVER THE INPUT: true; the input reads as it did. -/
def wireGetsSpec : ChangeSpec := { name := "wireGets", fn := fun _ => fun
  | [d1, d2, d3] => { results := [.lit (.bool true)], args := [d1, d2, d3] }
  | _ => none }
def wireGetsRow : OpenClaim := { program := "ytheodenjjaoncaa", sum := "e1146a1cbdfe9ab54cdab671243134c7fbfd9e3e4514171526311f1a638ac786", func := "annulet/annuletlaw03.WireGets", spec := "wireGets", apart := false }
def WireGetsSaid : Prop := wireGetsRow.holds Try.pinned (OpenSpec.ofChange wireGetsSpec)

/-- ITS FALSE NEIGHBOUR: 'it returns false'. Refute it at one input. -/
def wireGetsWrong : ChangeSpec := { name := "wireGets", fn := fun _ => fun
  | [d1, d2, d3] => { results := [.lit (.bool false)], args := [d1, d2, d3] }
  | _ => none }
def WireGetsWrongFalsely : Prop := wireGetsRow.holds Try.pinned (OpenSpec.ofChange wireGetsWrong)

/-- 'annuletlaw01.IdentSums': WHATEVER THE INPUT: true; the input reads as it did. -/
def identSumsSpec : ChangeSpec := { name := "identSums", fn := fun _ => fun
  | [d1, d2] => { results := [.lit (.bool true)], args := [d1, d2] }
  | _ => none }
def identSumsRow : OpenClaim := { program := "ytheodenjjaoncaa", sum := "e1146a1cbdfe9ab54cdab671243134c7fbfd9e3e4514171526311f1a638ac786", func := "annulet/annuletlaw01.IdentSums", spec := "identSums", inPlace := ["internal/bytealg.Compare"], apart := false }
def IdentSumsSaid : Prop := identSumsRow.holds Try.pinned (OpenSpec.ofChange identSumsSpec)

/-- ITS FALSE NEIGHBOUR: 'it returns false'. Refute it at one input. -/
def identSumsWrong : ChangeSpec := { name := "identSums", fn := fun _ => fun
  | [d1, d2] => { results := [.lit (.bool false)], args := [d1, d2] }
  | _ => none }
def IdentSumsWrongFalsely : Prop := identSumsRow.holds Try.pinned (OpenSpec.ofChange identSumsWrong)

/-- 'annuletlaw01.IdentNears': WHATEVER THE INPUT: true; the input reads as it did. -/
def identNearsSpec : ChangeSpec := { name := "identNears", fn := fun _ => fun
  | [d1, d2, d3] => { results := [.lit (.bool true)], args := [d1, d2, d3] }
  | _ => none }
def identNearsRow : OpenClaim := { program := "ytheodenjjaoncaa", sum := "e1146a1cbdfe9ab54cdab671243134c7fbfd9e3e4514171526311f1a638ac786", func := "annulet/annuletlaw01.IdentNears", spec := "identNears", inPlace := ["internal/bytealg.Compare"], apart := false }
def IdentNearsSaid : Prop := identNearsRow.holds Try.pinned (OpenSpec.ofChange identNearsSpec)

/-- ITS FALSE NEIGHBOUR: 'it returns false'. Refute it at one input. -/
def identNearsWrong : ChangeSpec := { name := "identNears", fn := fun _ => fun
  | [d1, d2, d3] => { results := [.lit (.bool false)], args := [d1, d2, d3] }
  | _ => none }
def IdentNearsWrongFalsely : Prop := identNearsRow.holds Try.pinned (OpenSpec.ofChange identNearsWrong)

/-- 'annuletlaw01.IdentTurns': WHATEVER THE INPUT: true; the input reads as it did. -/
def identTurnsSpec : ChangeSpec := { name := "identTurns", fn := fun _ => fun
  | [d1, d2, d3] => { results := [.lit (.bool true)], args := [d1, d2, d3] }
  | _ => none }
def identTurnsRow : OpenClaim := { program := "ytheodenjjaoncaa", sum := "e1146a1cbdfe9ab54cdab671243134c7fbfd9e3e4514171526311f1a638ac786", func := "annulet/annuletlaw01.IdentTurns", spec := "identTurns", inPlace := ["internal/bytealg.Compare"], apart := false }
def IdentTurnsSaid : Prop := identTurnsRow.holds Try.pinned (OpenSpec.ofChange identTurnsSpec)

/-- ITS FALSE NEIGHBOUR: 'it returns false'. Refute it at one input. -/
def identTurnsWrong : ChangeSpec := { name := "identTurns", fn := fun _ => fun
  | [d1, d2, d3] => { results := [.lit (.bool false)], args := [d1, d2, d3] }
  | _ => none }
def IdentTurnsWrongFalsely : Prop := identTurnsRow.holds Try.pinned (OpenSpec.ofChange identTurnsWrong)

/-- 'annuletlaw01.IdentTexts': WHATEVER THE INPUT: true; the input reads as it did. -/
def identTextsSpec : ChangeSpec := { name := "identTexts", fn := fun _ => fun
  | [d1, d2] => { results := [.lit (.bool true)], args := [d1, d2] }
  | _ => none }
def identTextsRow : OpenClaim := { program := "ytheodenjjaoncaa", sum := "e1146a1cbdfe9ab54cdab671243134c7fbfd9e3e4514171526311f1a638ac786", func := "annulet/annuletlaw01.IdentTexts", spec := "identTexts", inPlace := ["internal/bytealg.Compare"], apart := false }
def IdentTextsSaid : Prop := identTextsRow.holds Try.pinned (OpenSpec.ofChange identTextsSpec)

/-- ITS FALSE NEIGHBOUR: 'it returns false'. Refute it at one input. -/
def identTextsWrong : ChangeSpec := { name := "identTexts", fn := fun _ => fun
  | [d1, d2] => { results := [.lit (.bool false)], args := [d1, d2] }
  | _ => none }
def IdentTextsWrongFalsely : Prop := identTextsRow.holds Try.pinned (OpenSpec.ofChange identTextsWrong)

/-- 'annuletlaw01.IdentOne': WHATEVER THE INPUT: true; the input reads as it did. -/
def identOneSpec : ChangeSpec := { name := "identOne", fn := fun _ => fun
  | [d1, d2] => { results := [.lit (.bool true)], args := [d1, d2] }
  | _ => none }
def identOneRow : OpenClaim := { program := "ytheodenjjaoncaa", sum := "e1146a1cbdfe9ab54cdab671243134c7fbfd9e3e4514171526311f1a638ac786", func := "annulet/annuletlaw01.IdentOne", spec := "identOne", inPlace := ["internal/bytealg.Compare"], apart := false }
def IdentOneSaid : Prop := identOneRow.holds Try.pinned (OpenSpec.ofChange identOneSpec)

/-- ITS FALSE NEIGHBOUR: 'it returns false'. Refute it at one input. -/
def identOneWrong : ChangeSpec := { name := "identOne", fn := fun _ => fun
  | [d1, d2] => { results := [.lit (.bool false)], args := [d1, d2] }
  | _ => none }
def IdentOneWrongFalsely : Prop := identOneRow.holds Try.pinned (OpenSpec.ofChange identOneWrong)

/-- 'annuletlaw01.IdentBack': WHATEVER THE INPUT: true; the input reads as it did. -/
def identBackSpec : ChangeSpec := { name := "identBack", fn := fun _ => fun
  | [d1, d2] => { results := [.lit (.bool true)], args := [d1, d2] }
  | _ => none }
def identBackRow : OpenClaim := { program := "ytheodenjjaoncaa", sum := "e1146a1cbdfe9ab54cdab671243134c7fbfd9e3e4514171526311f1a638ac786", func := "annulet/annuletlaw01.IdentBack", spec := "identBack", inPlace := ["internal/bytealg.Compare"], apart := false }
def IdentBackSaid : Prop := identBackRow.holds Try.pinned (OpenSpec.ofChange identBackSpec)

/-- ITS FALSE NEIGHBOUR: 'it returns false'. Refute it at one input. -/
def identBackWrong : ChangeSpec := { name := "identBack", fn := fun _ => fun
  | [d1, d2] => { results := [.lit (.bool false)], args := [d1, d2] }
  | _ => none }
def IdentBackWrongFalsely : Prop := identBackRow.holds Try.pinned (OpenSpec.ofChange identBackWrong)

/-- 'annuletlaw01.IdentAround': WHATEVER THE INPUT: true; the input reads as it did. -/
def identAroundSpec : ChangeSpec := { name := "identAround", fn := fun _ => fun
  | [d1, d2, d3] => { results := [.lit (.bool true)], args := [d1, d2, d3] }
  | _ => none }
def identAroundRow : OpenClaim := { program := "ytheodenjjaoncaa", sum := "e1146a1cbdfe9ab54cdab671243134c7fbfd9e3e4514171526311f1a638ac786", func := "annulet/annuletlaw01.IdentAround", spec := "identAround", inPlace := ["internal/bytealg.Compare"], apart := false }
def IdentAroundSaid : Prop := identAroundRow.holds Try.pinned (OpenSpec.ofChange identAroundSpec)

/-- ITS FALSE NEIGHBOUR: 'it returns false'. Refute it at one input. -/
def identAroundWrong : ChangeSpec := { name := "identAround", fn := fun _ => fun
  | [d1, d2, d3] => { results := [.lit (.bool false)], args := [d1, d2, d3] }
  | _ => none }
def IdentAroundWrongFalsely : Prop := identAroundRow.holds Try.pinned (OpenSpec.ofChange identAroundWrong)

/-- 'annuletlaw01.IdentTurned': WHATEVER THE INPUT: true; the input reads as it did. -/
def identTurnedSpec : ChangeSpec := { name := "identTurned", fn := fun _ => fun
  | [d1, d2] => { results := [.lit (.bool true)], args := [d1, d2] }
  | _ => none }
def identTurnedRow : OpenClaim := { program := "ytheodenjjaoncaa", sum := "e1146a1cbdfe9ab54cdab671243134c7fbfd9e3e4514171526311f1a638ac786", func := "annulet/annuletlaw01.IdentTurned", spec := "identTurned", inPlace := ["internal/bytealg.Compare"], unfollowed := true, recurses := true, apart := false }
def IdentTurnedSaid : Prop := identTurnedRow.holds Try.pinned (OpenSpec.ofChange identTurnedSpec)

/-- ITS FALSE NEIGHBOUR: 'it returns false'. Refute it at one input. -/
def identTurnedWrong : ChangeSpec := { name := "identTurned", fn := fun _ => fun
  | [d1, d2] => { results := [.lit (.bool false)], args := [d1, d2] }
  | _ => none }
def IdentTurnedWrongFalsely : Prop := identTurnedRow.holds Try.pinned (OpenSpec.ofChange identTurnedWrong)

/-- 'annuletlaw09.HelloOnce': WHATEVER THE INPUT: true; the input reads as it did. -/
def helloOnceSpec : ChangeSpec := { name := "helloOnce", fn := fun _ => fun
  | [d] => { results := [.lit (.bool true)], args := [d] }
  | _ => none }
def helloOnceRow : OpenClaim := { program := "ytheodenjjaoncaa", sum := "e1146a1cbdfe9ab54cdab671243134c7fbfd9e3e4514171526311f1a638ac786", func := "annulet/annuletlaw09.HelloOnce", spec := "helloOnce", apart := false }
def HelloOnceSaid : Prop := helloOnceRow.holds Try.pinned (OpenSpec.ofChange helloOnceSpec)

/-- ITS FALSE NEIGHBOUR: 'it returns false'. Refute it at one input. -/
def helloOnceWrong : ChangeSpec := { name := "helloOnce", fn := fun _ => fun
  | [d] => { results := [.lit (.bool false)], args := [d] }
  | _ => none }
def HelloOnceWrongFalsely : Prop := helloOnceRow.holds Try.pinned (OpenSpec.ofChange helloOnceWrong)

/-- 'annuletlaw09.HelloPlays': WHATEVER THE INPUT: true; the input reads as it did. -/
def helloPlaysSpec : ChangeSpec := { name := "helloPlays", fn := fun _ => fun
  | [d1, d2] => { results := [.lit (.bool true)], args := [d1, d2] }
  | _ => none }
def helloPlaysRow : OpenClaim := { program := "ytheodenjjaoncaa", sum := "e1146a1cbdfe9ab54cdab671243134c7fbfd9e3e4514171526311f1a638ac786", func := "annulet/annuletlaw09.HelloPlays", spec := "helloPlays", apart := false }
def HelloPlaysSaid : Prop := helloPlaysRow.holds Try.pinned (OpenSpec.ofChange helloPlaysSpec)

/-- ITS FALSE NEIGHBOUR: 'it returns false'. Refute it at one input. -/
def helloPlaysWrong : ChangeSpec := { name := "helloPlays", fn := fun _ => fun
  | [d1, d2] => { results := [.lit (.bool false)], args := [d1, d2] }
  | _ => none }
def HelloPlaysWrongFalsely : Prop := helloPlaysRow.holds Try.pinned (OpenSpec.ofChange helloPlaysWrong)

/-- 'annuletlaw09.HelloDown': WHATEVER THE INPUT: true; the input reads as it did. -/
def helloDownSpec : ChangeSpec := { name := "helloDown", fn := fun _ => fun
  | [d1, d2] => { results := [.lit (.bool true)], args := [d1, d2] }
  | _ => none }
def helloDownRow : OpenClaim := { program := "ytheodenjjaoncaa", sum := "e1146a1cbdfe9ab54cdab671243134c7fbfd9e3e4514171526311f1a638ac786", func := "annulet/annuletlaw09.HelloDown", spec := "helloDown", apart := false }
def HelloDownSaid : Prop := helloDownRow.holds Try.pinned (OpenSpec.ofChange helloDownSpec)

/-- ITS FALSE NEIGHBOUR: 'it returns false'. Refute it at one input. -/
def helloDownWrong : ChangeSpec := { name := "helloDown", fn := fun _ => fun
  | [d1, d2] => { results := [.lit (.bool false)], args := [d1, d2] }
  | _ => none }
def HelloDownWrongFalsely : Prop := helloDownRow.holds Try.pinned (OpenSpec.ofChange helloDownWrong)

/-- 'annuletlaw04.FrameEncodes': WHATEVER THE INPUT: true; the input reads as it did. -/
def frameEncodesSpec : ChangeSpec := { name := "frameEncodes", fn := fun _ => fun
  | [d] => { results := [.lit (.bool true)], args := [d] }
  | _ => none }
def frameEncodesRow : OpenClaim := { program := "ytheodenjjaoncaa", sum := "e1146a1cbdfe9ab54cdab671243134c7fbfd9e3e4514171526311f1a638ac786", func := "annulet/annuletlaw04.FrameEncodes", spec := "frameEncodes", unfollowed := true, recurses := true, apart := false }
def FrameEncodesSaid : Prop := frameEncodesRow.holds Try.pinned (OpenSpec.ofChange frameEncodesSpec)

/-- ITS FALSE NEIGHBOUR: 'it returns false'. Refute it at one input. -/
def frameEncodesWrong : ChangeSpec := { name := "frameEncodes", fn := fun _ => fun
  | [d] => { results := [.lit (.bool false)], args := [d] }
  | _ => none }
def FrameEncodesWrongFalsely : Prop := frameEncodesRow.holds Try.pinned (OpenSpec.ofChange frameEncodesWrong)

/-- 'annuletlaw04.FrameDecodes': WHATEVER THE INPUT: true; the input reads as it did. -/
def frameDecodesSpec : ChangeSpec := { name := "frameDecodes", fn := fun _ => fun
  | [d] => { results := [.lit (.bool true)], args := [d] }
  | _ => none }
def frameDecodesRow : OpenClaim := { program := "ytheodenjjaoncaa", sum := "e1146a1cbdfe9ab54cdab671243134c7fbfd9e3e4514171526311f1a638ac786", func := "annulet/annuletlaw04.FrameDecodes", spec := "frameDecodes", unfollowed := true, recurses := true, apart := false }
def FrameDecodesSaid : Prop := frameDecodesRow.holds Try.pinned (OpenSpec.ofChange frameDecodesSpec)

/-- ITS FALSE NEIGHBOUR: 'it returns false'. Refute it at one input. -/
def frameDecodesWrong : ChangeSpec := { name := "frameDecodes", fn := fun _ => fun
  | [d] => { results := [.lit (.bool false)], args := [d] }
  | _ => none }
def FrameDecodesWrongFalsely : Prop := frameDecodesRow.holds Try.pinned (OpenSpec.ofChange frameDecodesWrong)

/-- 'annuletlaw04.FrameBodies': WHATEVER THE INPUT: true; the input reads as it did. -/
def frameBodiesSpec : ChangeSpec := { name := "frameBodies", fn := fun _ => fun
  | [d] => { results := [.lit (.bool true)], args := [d] }
  | _ => none }
def frameBodiesRow : OpenClaim := { program := "ytheodenjjaoncaa", sum := "e1146a1cbdfe9ab54cdab671243134c7fbfd9e3e4514171526311f1a638ac786", func := "annulet/annuletlaw04.FrameBodies", spec := "frameBodies", unfollowed := true, recurses := true, apart := false }
def FrameBodiesSaid : Prop := frameBodiesRow.holds Try.pinned (OpenSpec.ofChange frameBodiesSpec)

/-- ITS FALSE NEIGHBOUR: 'it returns false'. Refute it at one input. -/
def frameBodiesWrong : ChangeSpec := { name := "frameBodies", fn := fun _ => fun
  | [d] => { results := [.lit (.bool false)], args := [d] }
  | _ => none }
def FrameBodiesWrongFalsely : Prop := frameBodiesRow.holds Try.pinned (OpenSpec.ofChange frameBodiesWrong)

/-- 'annuletlaw04.FrameBack': WHATEVER THE INPUT: true; the input reads as it did. -/
def frameBackSpec : ChangeSpec := { name := "frameBack", fn := fun _ => fun
  | [d] => { results := [.lit (.bool true)], args := [d] }
  | _ => none }
def frameBackRow : OpenClaim := { program := "ytheodenjjaoncaa", sum := "e1146a1cbdfe9ab54cdab671243134c7fbfd9e3e4514171526311f1a638ac786", func := "annulet/annuletlaw04.FrameBack", spec := "frameBack", unfollowed := true, recurses := true, apart := false }
def FrameBackSaid : Prop := frameBackRow.holds Try.pinned (OpenSpec.ofChange frameBackSpec)

/-- ITS FALSE NEIGHBOUR: 'it returns false'. Refute it at one input. -/
def frameBackWrong : ChangeSpec := { name := "frameBack", fn := fun _ => fun
  | [d] => { results := [.lit (.bool false)], args := [d] }
  | _ => none }
def FrameBackWrongFalsely : Prop := frameBackRow.holds Try.pinned (OpenSpec.ofChange frameBackWrong)

/-- 'annuletlaw04.FrameOne': WHATEVER THE INPUT: true; the input reads as it did. -/
def frameOneSpec : ChangeSpec := { name := "frameOne", fn := fun _ => fun
  | [d] => { results := [.lit (.bool true)], args := [d] }
  | _ => none }
def frameOneRow : OpenClaim := { program := "ytheodenjjaoncaa", sum := "e1146a1cbdfe9ab54cdab671243134c7fbfd9e3e4514171526311f1a638ac786", func := "annulet/annuletlaw04.FrameOne", spec := "frameOne", unfollowed := true, recurses := true, apart := false }
def FrameOneSaid : Prop := frameOneRow.holds Try.pinned (OpenSpec.ofChange frameOneSpec)

/-- ITS FALSE NEIGHBOUR: 'it returns false'. Refute it at one input. -/
def frameOneWrong : ChangeSpec := { name := "frameOne", fn := fun _ => fun
  | [d] => { results := [.lit (.bool false)], args := [d] }
  | _ => none }
def FrameOneWrongFalsely : Prop := frameOneRow.holds Try.pinned (OpenSpec.ofChange frameOneWrong)

/-- 'annuletlaw04.FrameCuts': WHATEVER THE INPUT: true; the input reads as it did. -/
def frameCutsSpec : ChangeSpec := { name := "frameCuts", fn := fun _ => fun
  | [d1, d2] => { results := [.lit (.bool true)], args := [d1, d2] }
  | _ => none }
def frameCutsRow : OpenClaim := { program := "ytheodenjjaoncaa", sum := "e1146a1cbdfe9ab54cdab671243134c7fbfd9e3e4514171526311f1a638ac786", func := "annulet/annuletlaw04.FrameCuts", spec := "frameCuts", unfollowed := true, recurses := true, apart := false }
def FrameCutsSaid : Prop := frameCutsRow.holds Try.pinned (OpenSpec.ofChange frameCutsSpec)

/-- ITS FALSE NEIGHBOUR: 'it returns false'. Refute it at one input. -/
def frameCutsWrong : ChangeSpec := { name := "frameCuts", fn := fun _ => fun
  | [d1, d2] => { results := [.lit (.bool false)], args := [d1, d2] }
  | _ => none }
def FrameCutsWrongFalsely : Prop := frameCutsRow.holds Try.pinned (OpenSpec.ofChange frameCutsWrong)

/-- 'annuletlaw04.FrameNone': WHATEVER THE INPUT: true; the input reads as it did. -/
def frameNoneSpec : ChangeSpec := { name := "frameNone", fn := fun _ => fun
  | [d] => { results := [.lit (.bool true)], args := [d] }
  | _ => none }
def frameNoneRow : OpenClaim := { program := "ytheodenjjaoncaa", sum := "e1146a1cbdfe9ab54cdab671243134c7fbfd9e3e4514171526311f1a638ac786", func := "annulet/annuletlaw04.FrameNone", spec := "frameNone", unfollowed := true, recurses := true, apart := false }
def FrameNoneSaid : Prop := frameNoneRow.holds Try.pinned (OpenSpec.ofChange frameNoneSpec)

/-- ITS FALSE NEIGHBOUR: 'it returns false'. Refute it at one input. -/
def frameNoneWrong : ChangeSpec := { name := "frameNone", fn := fun _ => fun
  | [d] => { results := [.lit (.bool false)], args := [d] }
  | _ => none }
def FrameNoneWrongFalsely : Prop := frameNoneRow.holds Try.pinned (OpenSpec.ofChange frameNoneWrong)

/-- 'annuletlaw04.FrameNew': WHATEVER THE INPUT: true; the input reads as it did. -/
def frameNewSpec : ChangeSpec := { name := "frameNew", fn := fun _ => fun
  | [d] => { results := [.lit (.bool true)], args := [d] }
  | _ => none }
def frameNewRow : OpenClaim := { program := "ytheodenjjaoncaa", sum := "e1146a1cbdfe9ab54cdab671243134c7fbfd9e3e4514171526311f1a638ac786", func := "annulet/annuletlaw04.FrameNew", spec := "frameNew", unfollowed := true, recurses := true, apart := false }
def FrameNewSaid : Prop := frameNewRow.holds Try.pinned (OpenSpec.ofChange frameNewSpec)

/-- ITS FALSE NEIGHBOUR: 'it returns false'. Refute it at one input. -/
def frameNewWrong : ChangeSpec := { name := "frameNew", fn := fun _ => fun
  | [d] => { results := [.lit (.bool false)], args := [d] }
  | _ => none }
def FrameNewWrongFalsely : Prop := frameNewRow.holds Try.pinned (OpenSpec.ofChange frameNewWrong)

/- THE SECOND FORM. 'bulk': how many values and letters a reading holds, each counted each time it is reached (what is shared counts as often as it is met; a slice's spare places count too). A statement '..UptoSaid' is the law's where the arguments, and the package variables that the reading takes, are together of bulk at most 1048576: NARROWER than '..Said'. Prove '..Said' where nothing that the law and all that it calls make is longer than what came in: it says more and counts as full. Else prove '..UptoSaid'. A law counts once. -/
mutual
def uptoBulk {H : Type} : DataW H → Nat
  | .lit (.string bytes) => bytes.length + 1
  | .lit _ => 1
  | .nil => 1
  | .ptr d => uptoBulk d + 1
  | .slice elems spare => uptoBulkAll elems + uptoBulkAll spare + 1
  | .agg parts => uptoBulkAll parts + 1
  | .iface _ d => uptoBulk d + 1
  | .map entries => uptoBulkEntries entries + 1
  | .held _ => 1
def uptoBulkAll {H : Type} : List (DataW H) → Nat
  | [] => 0
  | d :: r => uptoBulk d + uptoBulkAll r
def uptoBulkEntries {H : Type} : List (Lit × DataW H) → Nat
  | [] => 0
  | x :: r => uptoBulkEntry x + uptoBulkEntries r
def uptoBulkEntry {H : Type} : Lit × DataW H → Nat
  | (.string bytes, d) => bytes.length + uptoBulk d + 1
  | (_, d) => uptoBulk d + 1
 end
def uptoSmall : (H : Type) → List (DataW H) → Bool := fun _ ds => decide (uptoBulkAll ds ≤ 1048576)
def OpenSpec.upto (s : _root_.Go.ChangeSpec) : _root_.Go.OpenSpec := { _root_.Go.OpenSpec.ofChange s with cond := some uptoSmall }

/-- 'annuletlaw16.RepBests', WHERE WHAT IT READS IS OF BULK AT MOST 1048576: true; the input reads as it did. -/
def repBestsUptoRow : OpenClaim := { program := "ytheodenjjaoncaa", sum := "e1146a1cbdfe9ab54cdab671243134c7fbfd9e3e4514171526311f1a638ac786", func := "annulet/annuletlaw16.RepBests", spec := "repBests", inPlace := ["internal/bytealg.Compare"], apart := false, narrowed := true }
def RepBestsUptoSaid : Prop := repBestsUptoRow.holds Try.pinned (OpenSpec.upto repBestsSpec)

/-- 'annuletlaw16.RepLeast', WHERE WHAT IT READS IS OF BULK AT MOST 1048576: true; the input reads as it did. -/
def repLeastUptoRow : OpenClaim := { program := "ytheodenjjaoncaa", sum := "e1146a1cbdfe9ab54cdab671243134c7fbfd9e3e4514171526311f1a638ac786", func := "annulet/annuletlaw16.RepLeast", spec := "repLeast", inPlace := ["internal/bytealg.Compare"], apart := false, narrowed := true }
def RepLeastUptoSaid : Prop := repLeastUptoRow.holds Try.pinned (OpenSpec.upto repLeastSpec)

/-- 'annuletlaw03.WireOne', WHERE WHAT IT READS IS OF BULK AT MOST 1048576: true; the input reads as it did. -/
def wireOneUptoRow : OpenClaim := { program := "ytheodenjjaoncaa", sum := "e1146a1cbdfe9ab54cdab671243134c7fbfd9e3e4514171526311f1a638ac786", func := "annulet/annuletlaw03.WireOne", spec := "wireOne", apart := false, narrowed := true }
def WireOneUptoSaid : Prop := wireOneUptoRow.holds Try.pinned (OpenSpec.upto wireOneSpec)

/-- 'annuletlaw03.WireFree', WHERE WHAT IT READS IS OF BULK AT MOST 1048576: true; the input reads as it did. -/
def wireFreeUptoRow : OpenClaim := { program := "ytheodenjjaoncaa", sum := "e1146a1cbdfe9ab54cdab671243134c7fbfd9e3e4514171526311f1a638ac786", func := "annulet/annuletlaw03.WireFree", spec := "wireFree", apart := false, narrowed := true }
def WireFreeUptoSaid : Prop := wireFreeUptoRow.holds Try.pinned (OpenSpec.upto wireFreeSpec)

/-- 'annuletlaw03.WirePuts', WHERE WHAT IT READS IS OF BULK AT MOST 1048576: true; the input reads as it did. -/
def wirePutsUptoRow : OpenClaim := { program := "ytheodenjjaoncaa", sum := "e1146a1cbdfe9ab54cdab671243134c7fbfd9e3e4514171526311f1a638ac786", func := "annulet/annuletlaw03.WirePuts", spec := "wirePuts", apart := false, narrowed := true }
def WirePutsUptoSaid : Prop := wirePutsUptoRow.holds Try.pinned (OpenSpec.upto wirePutsSpec)

/-- 'annuletlaw08.WindowPlays', WHERE WHAT IT READS IS OF BULK AT MOST 1048576: true; the input reads as it did. -/
def windowPlaysUptoRow : OpenClaim := { program := "ytheodenjjaoncaa", sum := "e1146a1cbdfe9ab54cdab671243134c7fbfd9e3e4514171526311f1a638ac786", func := "annulet/annuletlaw08.WindowPlays", spec := "windowPlays", apart := false, narrowed := true }
def WindowPlaysUptoSaid : Prop := windowPlaysUptoRow.holds Try.pinned (OpenSpec.upto windowPlaysSpec)

/-- 'annuletlaw08.WindowOnce', WHERE WHAT IT READS IS OF BULK AT MOST 1048576: true; the input reads as it did. -/
def windowOnceUptoRow : OpenClaim := { program := "ytheodenjjaoncaa", sum := "e1146a1cbdfe9ab54cdab671243134c7fbfd9e3e4514171526311f1a638ac786", func := "annulet/annuletlaw08.WindowOnce", spec := "windowOnce", apart := false, narrowed := true }
def WindowOnceUptoSaid : Prop := windowOnceUptoRow.holds Try.pinned (OpenSpec.upto windowOnceSpec)

/-- 'annuletlaw08.WindowAcks', WHERE WHAT IT READS IS OF BULK AT MOST 1048576: true; the input reads as it did. -/
def windowAcksUptoRow : OpenClaim := { program := "ytheodenjjaoncaa", sum := "e1146a1cbdfe9ab54cdab671243134c7fbfd9e3e4514171526311f1a638ac786", func := "annulet/annuletlaw08.WindowAcks", spec := "windowAcks", apart := false, narrowed := true }
def WindowAcksUptoSaid : Prop := windowAcksUptoRow.holds Try.pinned (OpenSpec.upto windowAcksSpec)

/-- 'annuletlaw08.WindowNil', WHERE WHAT IT READS IS OF BULK AT MOST 1048576: true; the input reads as it did. -/
def windowNilUptoRow : OpenClaim := { program := "ytheodenjjaoncaa", sum := "e1146a1cbdfe9ab54cdab671243134c7fbfd9e3e4514171526311f1a638ac786", func := "annulet/annuletlaw08.WindowNil", spec := "windowNil", apart := false, narrowed := true }
def WindowNilUptoSaid : Prop := windowNilUptoRow.holds Try.pinned (OpenSpec.upto windowNilSpec)

/-- 'annuletlaw16.RepComes', WHERE WHAT IT READS IS OF BULK AT MOST 1048576: true; the input reads as it did. -/
def repComesUptoRow : OpenClaim := { program := "ytheodenjjaoncaa", sum := "e1146a1cbdfe9ab54cdab671243134c7fbfd9e3e4514171526311f1a638ac786", func := "annulet/annuletlaw16.RepComes", spec := "repComes", inPlace := ["internal/bytealg.Compare"], apart := false, narrowed := true }
def RepComesUptoSaid : Prop := repComesUptoRow.holds Try.pinned (OpenSpec.upto repComesSpec)

/-- 'annuletlaw16.RepWay', WHERE WHAT IT READS IS OF BULK AT MOST 1048576: true; the input reads as it did. -/
def repWayUptoRow : OpenClaim := { program := "ytheodenjjaoncaa", sum := "e1146a1cbdfe9ab54cdab671243134c7fbfd9e3e4514171526311f1a638ac786", func := "annulet/annuletlaw16.RepWay", spec := "repWay", inPlace := ["internal/bytealg.Compare"], apart := false, narrowed := true }
def RepWayUptoSaid : Prop := repWayUptoRow.holds Try.pinned (OpenSpec.upto repWaySpec)

/-- 'annuletlaw16.RepNotes', WHERE WHAT IT READS IS OF BULK AT MOST 1048576: true; the input reads as it did. -/
def repNotesUptoRow : OpenClaim := { program := "ytheodenjjaoncaa", sum := "e1146a1cbdfe9ab54cdab671243134c7fbfd9e3e4514171526311f1a638ac786", func := "annulet/annuletlaw16.RepNotes", spec := "repNotes", inPlace := ["internal/bytealg.Compare"], apart := false, narrowed := true }
def RepNotesUptoSaid : Prop := repNotesUptoRow.holds Try.pinned (OpenSpec.upto repNotesSpec)

/-- 'annuletlaw03.WireBack', WHERE WHAT IT READS IS OF BULK AT MOST 1048576: true; the input reads as it did. -/
def wireBackUptoRow : OpenClaim := { program := "ytheodenjjaoncaa", sum := "e1146a1cbdfe9ab54cdab671243134c7fbfd9e3e4514171526311f1a638ac786", func := "annulet/annuletlaw03.WireBack", spec := "wireBack", apart := false, narrowed := true }
def WireBackUptoSaid : Prop := wireBackUptoRow.holds Try.pinned (OpenSpec.upto wireBackSpec)

/-- 'annuletlaw03.WireNew', WHERE WHAT IT READS IS OF BULK AT MOST 1048576: true; the input reads as it did. -/
def wireNewUptoRow : OpenClaim := { program := "ytheodenjjaoncaa", sum := "e1146a1cbdfe9ab54cdab671243134c7fbfd9e3e4514171526311f1a638ac786", func := "annulet/annuletlaw03.WireNew", spec := "wireNew", apart := false, narrowed := true }
def WireNewUptoSaid : Prop := wireNewUptoRow.holds Try.pinned (OpenSpec.upto wireNewSpec)

/-- 'annuletlaw03.WireGets', WHERE WHAT IT READS IS OF BULK AT MOST 1048576: true; the input reads as it did. -/
def wireGetsUptoRow : OpenClaim := { program := "ytheodenjjaoncaa", sum := "e1146a1cbdfe9ab54cdab671243134c7fbfd9e3e4514171526311f1a638ac786", func := "annulet/annuletlaw03.WireGets", spec := "wireGets", apart := false, narrowed := true }
def WireGetsUptoSaid : Prop := wireGetsUptoRow.holds Try.pinned (OpenSpec.upto wireGetsSpec)

/-- 'annuletlaw01.IdentSums', WHERE WHAT IT READS IS OF BULK AT MOST 1048576: true; the input reads as it did. -/
def identSumsUptoRow : OpenClaim := { program := "ytheodenjjaoncaa", sum := "e1146a1cbdfe9ab54cdab671243134c7fbfd9e3e4514171526311f1a638ac786", func := "annulet/annuletlaw01.IdentSums", spec := "identSums", inPlace := ["internal/bytealg.Compare"], apart := false, narrowed := true }
def IdentSumsUptoSaid : Prop := identSumsUptoRow.holds Try.pinned (OpenSpec.upto identSumsSpec)

/-- 'annuletlaw01.IdentNears', WHERE WHAT IT READS IS OF BULK AT MOST 1048576: true; the input reads as it did. -/
def identNearsUptoRow : OpenClaim := { program := "ytheodenjjaoncaa", sum := "e1146a1cbdfe9ab54cdab671243134c7fbfd9e3e4514171526311f1a638ac786", func := "annulet/annuletlaw01.IdentNears", spec := "identNears", inPlace := ["internal/bytealg.Compare"], apart := false, narrowed := true }
def IdentNearsUptoSaid : Prop := identNearsUptoRow.holds Try.pinned (OpenSpec.upto identNearsSpec)

/-- 'annuletlaw01.IdentTurns', WHERE WHAT IT READS IS OF BULK AT MOST 1048576: true; the input reads as it did. -/
def identTurnsUptoRow : OpenClaim := { program := "ytheodenjjaoncaa", sum := "e1146a1cbdfe9ab54cdab671243134c7fbfd9e3e4514171526311f1a638ac786", func := "annulet/annuletlaw01.IdentTurns", spec := "identTurns", inPlace := ["internal/bytealg.Compare"], apart := false, narrowed := true }
def IdentTurnsUptoSaid : Prop := identTurnsUptoRow.holds Try.pinned (OpenSpec.upto identTurnsSpec)

/-- 'annuletlaw01.IdentTexts', WHERE WHAT IT READS IS OF BULK AT MOST 1048576: true; the input reads as it did. -/
def identTextsUptoRow : OpenClaim := { program := "ytheodenjjaoncaa", sum := "e1146a1cbdfe9ab54cdab671243134c7fbfd9e3e4514171526311f1a638ac786", func := "annulet/annuletlaw01.IdentTexts", spec := "identTexts", inPlace := ["internal/bytealg.Compare"], apart := false, narrowed := true }
def IdentTextsUptoSaid : Prop := identTextsUptoRow.holds Try.pinned (OpenSpec.upto identTextsSpec)

/-- 'annuletlaw01.IdentOne', WHERE WHAT IT READS IS OF BULK AT MOST 1048576: true; the input reads as it did. -/
def identOneUptoRow : OpenClaim := { program := "ytheodenjjaoncaa", sum := "e1146a1cbdfe9ab54cdab671243134c7fbfd9e3e4514171526311f1a638ac786", func := "annulet/annuletlaw01.IdentOne", spec := "identOne", inPlace := ["internal/bytealg.Compare"], apart := false, narrowed := true }
def IdentOneUptoSaid : Prop := identOneUptoRow.holds Try.pinned (OpenSpec.upto identOneSpec)

/-- 'annuletlaw01.IdentBack', WHERE WHAT IT READS IS OF BULK AT MOST 1048576: true; the input reads as it did. -/
def identBackUptoRow : OpenClaim := { program := "ytheodenjjaoncaa", sum := "e1146a1cbdfe9ab54cdab671243134c7fbfd9e3e4514171526311f1a638ac786", func := "annulet/annuletlaw01.IdentBack", spec := "identBack", inPlace := ["internal/bytealg.Compare"], apart := false, narrowed := true }
def IdentBackUptoSaid : Prop := identBackUptoRow.holds Try.pinned (OpenSpec.upto identBackSpec)

/-- 'annuletlaw01.IdentAround', WHERE WHAT IT READS IS OF BULK AT MOST 1048576: true; the input reads as it did. -/
def identAroundUptoRow : OpenClaim := { program := "ytheodenjjaoncaa", sum := "e1146a1cbdfe9ab54cdab671243134c7fbfd9e3e4514171526311f1a638ac786", func := "annulet/annuletlaw01.IdentAround", spec := "identAround", inPlace := ["internal/bytealg.Compare"], apart := false, narrowed := true }
def IdentAroundUptoSaid : Prop := identAroundUptoRow.holds Try.pinned (OpenSpec.upto identAroundSpec)

/-- 'annuletlaw01.IdentTurned', WHERE WHAT IT READS IS OF BULK AT MOST 1048576: true; the input reads as it did. -/
def identTurnedUptoRow : OpenClaim := { program := "ytheodenjjaoncaa", sum := "e1146a1cbdfe9ab54cdab671243134c7fbfd9e3e4514171526311f1a638ac786", func := "annulet/annuletlaw01.IdentTurned", spec := "identTurned", inPlace := ["internal/bytealg.Compare"], unfollowed := true, recurses := true, apart := false, narrowed := true }
def IdentTurnedUptoSaid : Prop := identTurnedUptoRow.holds Try.pinned (OpenSpec.upto identTurnedSpec)

/-- 'annuletlaw09.HelloOnce', WHERE WHAT IT READS IS OF BULK AT MOST 1048576: true; the input reads as it did. -/
def helloOnceUptoRow : OpenClaim := { program := "ytheodenjjaoncaa", sum := "e1146a1cbdfe9ab54cdab671243134c7fbfd9e3e4514171526311f1a638ac786", func := "annulet/annuletlaw09.HelloOnce", spec := "helloOnce", apart := false, narrowed := true }
def HelloOnceUptoSaid : Prop := helloOnceUptoRow.holds Try.pinned (OpenSpec.upto helloOnceSpec)

/-- 'annuletlaw09.HelloPlays', WHERE WHAT IT READS IS OF BULK AT MOST 1048576: true; the input reads as it did. -/
def helloPlaysUptoRow : OpenClaim := { program := "ytheodenjjaoncaa", sum := "e1146a1cbdfe9ab54cdab671243134c7fbfd9e3e4514171526311f1a638ac786", func := "annulet/annuletlaw09.HelloPlays", spec := "helloPlays", apart := false, narrowed := true }
def HelloPlaysUptoSaid : Prop := helloPlaysUptoRow.holds Try.pinned (OpenSpec.upto helloPlaysSpec)

/-- 'annuletlaw09.HelloDown', WHERE WHAT IT READS IS OF BULK AT MOST 1048576: true; the input reads as it did. -/
def helloDownUptoRow : OpenClaim := { program := "ytheodenjjaoncaa", sum := "e1146a1cbdfe9ab54cdab671243134c7fbfd9e3e4514171526311f1a638ac786", func := "annulet/annuletlaw09.HelloDown", spec := "helloDown", apart := false, narrowed := true }
def HelloDownUptoSaid : Prop := helloDownUptoRow.holds Try.pinned (OpenSpec.upto helloDownSpec)

/-- 'annuletlaw04.FrameEncodes', WHERE WHAT IT READS IS OF BULK AT MOST 1048576: true; the input reads as it did. -/
def frameEncodesUptoRow : OpenClaim := { program := "ytheodenjjaoncaa", sum := "e1146a1cbdfe9ab54cdab671243134c7fbfd9e3e4514171526311f1a638ac786", func := "annulet/annuletlaw04.FrameEncodes", spec := "frameEncodes", unfollowed := true, recurses := true, apart := false, narrowed := true }
def FrameEncodesUptoSaid : Prop := frameEncodesUptoRow.holds Try.pinned (OpenSpec.upto frameEncodesSpec)

/-- 'annuletlaw04.FrameDecodes', WHERE WHAT IT READS IS OF BULK AT MOST 1048576: true; the input reads as it did. -/
def frameDecodesUptoRow : OpenClaim := { program := "ytheodenjjaoncaa", sum := "e1146a1cbdfe9ab54cdab671243134c7fbfd9e3e4514171526311f1a638ac786", func := "annulet/annuletlaw04.FrameDecodes", spec := "frameDecodes", unfollowed := true, recurses := true, apart := false, narrowed := true }
def FrameDecodesUptoSaid : Prop := frameDecodesUptoRow.holds Try.pinned (OpenSpec.upto frameDecodesSpec)

/-- 'annuletlaw04.FrameBodies', WHERE WHAT IT READS IS OF BULK AT MOST 1048576: true; the input reads as it did. -/
def frameBodiesUptoRow : OpenClaim := { program := "ytheodenjjaoncaa", sum := "e1146a1cbdfe9ab54cdab671243134c7fbfd9e3e4514171526311f1a638ac786", func := "annulet/annuletlaw04.FrameBodies", spec := "frameBodies", unfollowed := true, recurses := true, apart := false, narrowed := true }
def FrameBodiesUptoSaid : Prop := frameBodiesUptoRow.holds Try.pinned (OpenSpec.upto frameBodiesSpec)

/-- 'annuletlaw04.FrameBack', WHERE WHAT IT READS IS OF BULK AT MOST 1048576: true; the input reads as it did. -/
def frameBackUptoRow : OpenClaim := { program := "ytheodenjjaoncaa", sum := "e1146a1cbdfe9ab54cdab671243134c7fbfd9e3e4514171526311f1a638ac786", func := "annulet/annuletlaw04.FrameBack", spec := "frameBack", unfollowed := true, recurses := true, apart := false, narrowed := true }
def FrameBackUptoSaid : Prop := frameBackUptoRow.holds Try.pinned (OpenSpec.upto frameBackSpec)

/-- 'annuletlaw04.FrameOne', WHERE WHAT IT READS IS OF BULK AT MOST 1048576: true; the input reads as it did. -/
def frameOneUptoRow : OpenClaim := { program := "ytheodenjjaoncaa", sum := "e1146a1cbdfe9ab54cdab671243134c7fbfd9e3e4514171526311f1a638ac786", func := "annulet/annuletlaw04.FrameOne", spec := "frameOne", unfollowed := true, recurses := true, apart := false, narrowed := true }
def FrameOneUptoSaid : Prop := frameOneUptoRow.holds Try.pinned (OpenSpec.upto frameOneSpec)

/-- 'annuletlaw04.FrameCuts', WHERE WHAT IT READS IS OF BULK AT MOST 1048576: true; the input reads as it did. -/
def frameCutsUptoRow : OpenClaim := { program := "ytheodenjjaoncaa", sum := "e1146a1cbdfe9ab54cdab671243134c7fbfd9e3e4514171526311f1a638ac786", func := "annulet/annuletlaw04.FrameCuts", spec := "frameCuts", unfollowed := true, recurses := true, apart := false, narrowed := true }
def FrameCutsUptoSaid : Prop := frameCutsUptoRow.holds Try.pinned (OpenSpec.upto frameCutsSpec)

/-- 'annuletlaw04.FrameNone', WHERE WHAT IT READS IS OF BULK AT MOST 1048576: true; the input reads as it did. -/
def frameNoneUptoRow : OpenClaim := { program := "ytheodenjjaoncaa", sum := "e1146a1cbdfe9ab54cdab671243134c7fbfd9e3e4514171526311f1a638ac786", func := "annulet/annuletlaw04.FrameNone", spec := "frameNone", unfollowed := true, recurses := true, apart := false, narrowed := true }
def FrameNoneUptoSaid : Prop := frameNoneUptoRow.holds Try.pinned (OpenSpec.upto frameNoneSpec)

/-- 'annuletlaw04.FrameNew', WHERE WHAT IT READS IS OF BULK AT MOST 1048576: true; the input reads as it did. -/
def frameNewUptoRow : OpenClaim := { program := "ytheodenjjaoncaa", sum := "e1146a1cbdfe9ab54cdab671243134c7fbfd9e3e4514171526311f1a638ac786", func := "annulet/annuletlaw04.FrameNew", spec := "frameNew", unfollowed := true, recurses := true, apart := false, narrowed := true }
def FrameNewUptoSaid : Prop := frameNewUptoRow.holds Try.pinned (OpenSpec.upto frameNewSpec)

end Rows
end Go.Proofs.Ytheodenjjaoncaa
