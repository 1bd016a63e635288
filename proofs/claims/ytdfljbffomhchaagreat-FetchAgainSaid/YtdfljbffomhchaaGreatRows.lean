/-
  No cell of these rows narrows 'for every input' (looked for: loops, veiled, ifaces, maps, wideKeys, modest, calm, conditions, laid).
  DERIVED. THE GIVEN ROWS OF THIS SEAT. 19 by the template 'for every input the law returns true; each argument reads behind the call as it read before'; 0 by the template 'total and deterministic' (their statements: YtdfljbffomhchaaGreatTotals.lean).
  GIVEN WITH THE SEED: the statements are not yours to turn. If you find one false, say at which input.
  Laid BY PROGRAM, IN A SANDBOX (cutbox-rows.mjs): the forced cells as the released guide's own fill.sh prints them over the translation 11ba4a676dcced2c… (all of the seat's roots in one cut). By AI agents, Wed Nov 11 2026. No macro, syntax, notation, axiom, sorry.
-/
import Derived.Test.YtdfljbffomhchaaGreatChecked
import GoSem.Claim
import GoSem.ClaimJoined
import GoSem.ClaimMapViews
import Derived.JoinedTies
import Derived.KernelRfl
namespace Go.Proofs.YtdfljbffomhchaaGreat
/- THE CELL 'sum', in the pinned program and in every row, IS THE sha256 OF THE DUMP (.gsa) THAT YtdfljbffomhchaaGreatProg.lean LOADS. Nothing in Lean hashes anything: it is a label: what it is worth is what the hold of that sum in a sandbox is worth. -/
noncomputable def Tryz.pinned : Pinned := { name := "ytdfljbffomhchaagreat", sum := "11ba4a676dcced2c43c3f620f0db1ed158f3b6a0fbb7647bb5a5f9dad6d4ea61", checked := Tryz.checked }
namespace Rows
def none {H : Type} : Left H := { results := [], args := [] }

/-- 'signalmantop.TopPrefix': WHATEVER THE INPUT: true; the input reads as it did. -/
def topPrefixSpec : ChangeSpec := { name := "topPrefix", fn := fun _ => fun
  | [d1, d2, d3] => { results := [.lit (.bool true)], args := [d1, d2, d3] }
  | _ => none }
def topPrefixRow : OpenClaim := { program := "ytdfljbffomhchaagreat", sum := "11ba4a676dcced2c43c3f620f0db1ed158f3b6a0fbb7647bb5a5f9dad6d4ea61", func := "signalman/signalmantop.TopPrefix", spec := "topPrefix", unfollowed := true, recurses := true, apart := false }
def TopPrefixSaid : Prop := topPrefixRow.holds Tryz.pinned (OpenSpec.ofChange topPrefixSpec)

/-- ITS FALSE NEIGHBOUR: 'it returns false'. Refute it at one input. -/
def topPrefixWrong : ChangeSpec := { name := "topPrefix", fn := fun _ => fun
  | [d1, d2, d3] => { results := [.lit (.bool false)], args := [d1, d2, d3] }
  | _ => none }
def TopPrefixWrongFalsely : Prop := topPrefixRow.holds Tryz.pinned (OpenSpec.ofChange topPrefixWrong)

/-- 'signalmanlaw18.FetchNil': WHATEVER THE INPUT: true; the input reads as it did. -/
def fetchNilSpec : ChangeSpec := { name := "fetchNil", fn := fun _ => fun
  | [d1, d2] => { results := [.lit (.bool true)], args := [d1, d2] }
  | _ => none }
def fetchNilRow : OpenClaim := { program := "ytdfljbffomhchaagreat", sum := "11ba4a676dcced2c43c3f620f0db1ed158f3b6a0fbb7647bb5a5f9dad6d4ea61", func := "signalman/signalmanlaw18.FetchNil", spec := "fetchNil", unfollowed := true, recurses := true, apart := false }
def FetchNilSaid : Prop := fetchNilRow.holds Tryz.pinned (OpenSpec.ofChange fetchNilSpec)

/-- ITS FALSE NEIGHBOUR: 'it returns false'. Refute it at one input. -/
def fetchNilWrong : ChangeSpec := { name := "fetchNil", fn := fun _ => fun
  | [d1, d2] => { results := [.lit (.bool false)], args := [d1, d2] }
  | _ => none }
def FetchNilWrongFalsely : Prop := fetchNilRow.holds Tryz.pinned (OpenSpec.ofChange fetchNilWrong)

/-- 'signalmanlaw18.FetchTells': WHATEVER THE INPUT: true; the input reads as it did. -/
def fetchTellsSpec : ChangeSpec := { name := "fetchTells", fn := fun _ => fun
  | [d1, d2, d3, d4, d5, d6] => { results := [.lit (.bool true)], args := [d1, d2, d3, d4, d5, d6] }
  | _ => none }
def fetchTellsRow : OpenClaim := { program := "ytdfljbffomhchaagreat", sum := "11ba4a676dcced2c43c3f620f0db1ed158f3b6a0fbb7647bb5a5f9dad6d4ea61", func := "signalman/signalmanlaw18.FetchTells", spec := "fetchTells", unfollowed := true, recurses := true, apart := false }
def FetchTellsSaid : Prop := fetchTellsRow.holds Tryz.pinned (OpenSpec.ofChange fetchTellsSpec)

/-- ITS FALSE NEIGHBOUR: 'it returns false'. Refute it at one input. -/
def fetchTellsWrong : ChangeSpec := { name := "fetchTells", fn := fun _ => fun
  | [d1, d2, d3, d4, d5, d6] => { results := [.lit (.bool false)], args := [d1, d2, d3, d4, d5, d6] }
  | _ => none }
def FetchTellsWrongFalsely : Prop := fetchTellsRow.holds Tryz.pinned (OpenSpec.ofChange fetchTellsWrong)

/-- 'signalmanlaw18.FetchAgain': WHATEVER THE INPUT: true; the input reads as it did. -/
def fetchAgainSpec : ChangeSpec := { name := "fetchAgain", fn := fun _ => fun
  | [d1, d2, d3] => { results := [.lit (.bool true)], args := [d1, d2, d3] }
  | _ => none }
def fetchAgainRow : OpenClaim := { program := "ytdfljbffomhchaagreat", sum := "11ba4a676dcced2c43c3f620f0db1ed158f3b6a0fbb7647bb5a5f9dad6d4ea61", func := "signalman/signalmanlaw18.FetchAgain", spec := "fetchAgain", unfollowed := true, recurses := true, apart := false }
def FetchAgainSaid : Prop := fetchAgainRow.holds Tryz.pinned (OpenSpec.ofChange fetchAgainSpec)

/-- ITS FALSE NEIGHBOUR: 'it returns false'. Refute it at one input. -/
def fetchAgainWrong : ChangeSpec := { name := "fetchAgain", fn := fun _ => fun
  | [d1, d2, d3] => { results := [.lit (.bool false)], args := [d1, d2, d3] }
  | _ => none }
def FetchAgainWrongFalsely : Prop := fetchAgainRow.holds Tryz.pinned (OpenSpec.ofChange fetchAgainWrong)

/-- 'signalmanlaw18.FetchBoth': WHATEVER THE INPUT: true; the input reads as it did. -/
def fetchBothSpec : ChangeSpec := { name := "fetchBoth", fn := fun _ => fun
  | [d1, d2, d3, d4] => { results := [.lit (.bool true)], args := [d1, d2, d3, d4] }
  | _ => none }
def fetchBothRow : OpenClaim := { program := "ytdfljbffomhchaagreat", sum := "11ba4a676dcced2c43c3f620f0db1ed158f3b6a0fbb7647bb5a5f9dad6d4ea61", func := "signalman/signalmanlaw18.FetchBoth", spec := "fetchBoth", unfollowed := true, recurses := true, apart := false }
def FetchBothSaid : Prop := fetchBothRow.holds Tryz.pinned (OpenSpec.ofChange fetchBothSpec)

/-- ITS FALSE NEIGHBOUR: 'it returns false'. Refute it at one input. -/
def fetchBothWrong : ChangeSpec := { name := "fetchBoth", fn := fun _ => fun
  | [d1, d2, d3, d4] => { results := [.lit (.bool false)], args := [d1, d2, d3, d4] }
  | _ => none }
def FetchBothWrongFalsely : Prop := fetchBothRow.holds Tryz.pinned (OpenSpec.ofChange fetchBothWrong)

/-- 'signalmanlaw19.PostAlways': WHATEVER THE INPUT: true; the input reads as it did. -/
def postAlwaysSpec : ChangeSpec := { name := "postAlways", fn := fun _ => fun
  | [d1, d2, d3] => { results := [.lit (.bool true)], args := [d1, d2, d3] }
  | _ => none }
def postAlwaysRow : OpenClaim := { program := "ytdfljbffomhchaagreat", sum := "11ba4a676dcced2c43c3f620f0db1ed158f3b6a0fbb7647bb5a5f9dad6d4ea61", func := "signalman/signalmanlaw19.PostAlways", spec := "postAlways", unfollowed := true, recurses := true, apart := false }
def PostAlwaysSaid : Prop := postAlwaysRow.holds Tryz.pinned (OpenSpec.ofChange postAlwaysSpec)

/-- ITS FALSE NEIGHBOUR: 'it returns false'. Refute it at one input. -/
def postAlwaysWrong : ChangeSpec := { name := "postAlways", fn := fun _ => fun
  | [d1, d2, d3] => { results := [.lit (.bool false)], args := [d1, d2, d3] }
  | _ => none }
def PostAlwaysWrongFalsely : Prop := postAlwaysRow.holds Tryz.pinned (OpenSpec.ofChange postAlwaysWrong)

/-- 'signalmantop.TopTurned': WHATEVER THE INPUT: true; the input reads as it did. -/
def topTurnedSpec : ChangeSpec := { name := "topTurned", fn := fun _ => fun
  | [d1, d2, d3] => { results := [.lit (.bool true)], args := [d1, d2, d3] }
  | _ => none }
def topTurnedRow : OpenClaim := { program := "ytdfljbffomhchaagreat", sum := "11ba4a676dcced2c43c3f620f0db1ed158f3b6a0fbb7647bb5a5f9dad6d4ea61", func := "signalman/signalmantop.TopTurned", spec := "topTurned", unfollowed := true, recurses := true, apart := false }
def TopTurnedSaid : Prop := topTurnedRow.holds Tryz.pinned (OpenSpec.ofChange topTurnedSpec)

/-- ITS FALSE NEIGHBOUR: 'it returns false'. Refute it at one input. -/
def topTurnedWrong : ChangeSpec := { name := "topTurned", fn := fun _ => fun
  | [d1, d2, d3] => { results := [.lit (.bool false)], args := [d1, d2, d3] }
  | _ => none }
def TopTurnedWrongFalsely : Prop := topTurnedRow.holds Tryz.pinned (OpenSpec.ofChange topTurnedWrong)

/-- 'signalmanlaw19.PostSends': WHATEVER THE INPUT: true; the input reads as it did. -/
def postSendsSpec : ChangeSpec := { name := "postSends", fn := fun _ => fun
  | [d1, d2, d3] => { results := [.lit (.bool true)], args := [d1, d2, d3] }
  | _ => none }
def postSendsRow : OpenClaim := { program := "ytdfljbffomhchaagreat", sum := "11ba4a676dcced2c43c3f620f0db1ed158f3b6a0fbb7647bb5a5f9dad6d4ea61", func := "signalman/signalmanlaw19.PostSends", spec := "postSends", unfollowed := true, recurses := true, apart := false }
def PostSendsSaid : Prop := postSendsRow.holds Tryz.pinned (OpenSpec.ofChange postSendsSpec)

/-- ITS FALSE NEIGHBOUR: 'it returns false'. Refute it at one input. -/
def postSendsWrong : ChangeSpec := { name := "postSends", fn := fun _ => fun
  | [d1, d2, d3] => { results := [.lit (.bool false)], args := [d1, d2, d3] }
  | _ => none }
def PostSendsWrongFalsely : Prop := postSendsRow.holds Tryz.pinned (OpenSpec.ofChange postSendsWrong)

/-- 'signalmanlaw19.PostHears': WHATEVER THE INPUT: true; the input reads as it did. -/
def postHearsSpec : ChangeSpec := { name := "postHears", fn := fun _ => fun
  | [d1, d2, d3] => { results := [.lit (.bool true)], args := [d1, d2, d3] }
  | _ => none }
def postHearsRow : OpenClaim := { program := "ytdfljbffomhchaagreat", sum := "11ba4a676dcced2c43c3f620f0db1ed158f3b6a0fbb7647bb5a5f9dad6d4ea61", func := "signalman/signalmanlaw19.PostHears", spec := "postHears", unfollowed := true, recurses := true, apart := false }
def PostHearsSaid : Prop := postHearsRow.holds Tryz.pinned (OpenSpec.ofChange postHearsSpec)

/-- ITS FALSE NEIGHBOUR: 'it returns false'. Refute it at one input. -/
def postHearsWrong : ChangeSpec := { name := "postHears", fn := fun _ => fun
  | [d1, d2, d3] => { results := [.lit (.bool false)], args := [d1, d2, d3] }
  | _ => none }
def PostHearsWrongFalsely : Prop := postHearsRow.holds Tryz.pinned (OpenSpec.ofChange postHearsWrong)

/-- 'signalmanlaw19.PostMessages': WHATEVER THE INPUT: true; the input reads as it did. -/
def postMessagesSpec : ChangeSpec := { name := "postMessages", fn := fun _ => fun
  | [d1, d2] => { results := [.lit (.bool true)], args := [d1, d2] }
  | _ => none }
def postMessagesRow : OpenClaim := { program := "ytdfljbffomhchaagreat", sum := "11ba4a676dcced2c43c3f620f0db1ed158f3b6a0fbb7647bb5a5f9dad6d4ea61", func := "signalman/signalmanlaw19.PostMessages", spec := "postMessages", unfollowed := true, recurses := true, apart := false }
def PostMessagesSaid : Prop := postMessagesRow.holds Tryz.pinned (OpenSpec.ofChange postMessagesSpec)

/-- ITS FALSE NEIGHBOUR: 'it returns false'. Refute it at one input. -/
def postMessagesWrong : ChangeSpec := { name := "postMessages", fn := fun _ => fun
  | [d1, d2] => { results := [.lit (.bool false)], args := [d1, d2] }
  | _ => none }
def PostMessagesWrongFalsely : Prop := postMessagesRow.holds Tryz.pinned (OpenSpec.ofChange postMessagesWrong)

/-- 'signalmanlaw19.PostBegins': WHATEVER THE INPUT: true; the input reads as it did. -/
def postBeginsSpec : ChangeSpec := { name := "postBegins", fn := fun _ => fun
  | [d1, d2, d3] => { results := [.lit (.bool true)], args := [d1, d2, d3] }
  | _ => none }
def postBeginsRow : OpenClaim := { program := "ytdfljbffomhchaagreat", sum := "11ba4a676dcced2c43c3f620f0db1ed158f3b6a0fbb7647bb5a5f9dad6d4ea61", func := "signalman/signalmanlaw19.PostBegins", spec := "postBegins", unfollowed := true, recurses := true, apart := false }
def PostBeginsSaid : Prop := postBeginsRow.holds Tryz.pinned (OpenSpec.ofChange postBeginsSpec)

/-- ITS FALSE NEIGHBOUR: 'it returns false'. Refute it at one input. -/
def postBeginsWrong : ChangeSpec := { name := "postBegins", fn := fun _ => fun
  | [d1, d2, d3] => { results := [.lit (.bool false)], args := [d1, d2, d3] }
  | _ => none }
def PostBeginsWrongFalsely : Prop := postBeginsRow.holds Tryz.pinned (OpenSpec.ofChange postBeginsWrong)

/-- 'signalmanlaw21.PairStops': WHATEVER THE INPUT: true; the input reads as it did. -/
def pairStopsSpec : ChangeSpec := { name := "pairStops", fn := fun _ => fun
  | [d1, d2, d3] => { results := [.lit (.bool true)], args := [d1, d2, d3] }
  | _ => none }
def pairStopsRow : OpenClaim := { program := "ytdfljbffomhchaagreat", sum := "11ba4a676dcced2c43c3f620f0db1ed158f3b6a0fbb7647bb5a5f9dad6d4ea61", func := "signalman/signalmanlaw21.PairStops", spec := "pairStops", unfollowed := true, recurses := true, apart := false }
def PairStopsSaid : Prop := pairStopsRow.holds Tryz.pinned (OpenSpec.ofChange pairStopsSpec)

/-- ITS FALSE NEIGHBOUR: 'it returns false'. Refute it at one input. -/
def pairStopsWrong : ChangeSpec := { name := "pairStops", fn := fun _ => fun
  | [d1, d2, d3] => { results := [.lit (.bool false)], args := [d1, d2, d3] }
  | _ => none }
def PairStopsWrongFalsely : Prop := pairStopsRow.holds Tryz.pinned (OpenSpec.ofChange pairStopsWrong)

/-- 'signalmantop.TopCut': WHATEVER THE INPUT: true; the input reads as it did. -/
def topCutSpec : ChangeSpec := { name := "topCut", fn := fun _ => fun
  | [d1, d2, d3, d4] => { results := [.lit (.bool true)], args := [d1, d2, d3, d4] }
  | _ => none }
def topCutRow : OpenClaim := { program := "ytdfljbffomhchaagreat", sum := "11ba4a676dcced2c43c3f620f0db1ed158f3b6a0fbb7647bb5a5f9dad6d4ea61", func := "signalman/signalmantop.TopCut", spec := "topCut", unfollowed := true, recurses := true, apart := false }
def TopCutSaid : Prop := topCutRow.holds Tryz.pinned (OpenSpec.ofChange topCutSpec)

/-- ITS FALSE NEIGHBOUR: 'it returns false'. Refute it at one input. -/
def topCutWrong : ChangeSpec := { name := "topCut", fn := fun _ => fun
  | [d1, d2, d3, d4] => { results := [.lit (.bool false)], args := [d1, d2, d3, d4] }
  | _ => none }
def TopCutWrongFalsely : Prop := topCutRow.holds Tryz.pinned (OpenSpec.ofChange topCutWrong)

/-- 'signalmanlaw21.PairTells': WHATEVER THE INPUT: true; the input reads as it did. -/
def pairTellsSpec : ChangeSpec := { name := "pairTells", fn := fun _ => fun
  | [d1, d2, d3, d4] => { results := [.lit (.bool true)], args := [d1, d2, d3, d4] }
  | _ => none }
def pairTellsRow : OpenClaim := { program := "ytdfljbffomhchaagreat", sum := "11ba4a676dcced2c43c3f620f0db1ed158f3b6a0fbb7647bb5a5f9dad6d4ea61", func := "signalman/signalmanlaw21.PairTells", spec := "pairTells", unfollowed := true, recurses := true, apart := false }
def PairTellsSaid : Prop := pairTellsRow.holds Tryz.pinned (OpenSpec.ofChange pairTellsSpec)

/-- ITS FALSE NEIGHBOUR: 'it returns false'. Refute it at one input. -/
def pairTellsWrong : ChangeSpec := { name := "pairTells", fn := fun _ => fun
  | [d1, d2, d3, d4] => { results := [.lit (.bool false)], args := [d1, d2, d3, d4] }
  | _ => none }
def PairTellsWrongFalsely : Prop := pairTellsRow.holds Tryz.pinned (OpenSpec.ofChange pairTellsWrong)

/-- 'signalmanlaw21.PairOutage': WHATEVER THE INPUT: true; the input reads as it did. -/
def pairOutageSpec : ChangeSpec := { name := "pairOutage", fn := fun _ => fun
  | [d1, d2, d3, d4] => { results := [.lit (.bool true)], args := [d1, d2, d3, d4] }
  | _ => none }
def pairOutageRow : OpenClaim := { program := "ytdfljbffomhchaagreat", sum := "11ba4a676dcced2c43c3f620f0db1ed158f3b6a0fbb7647bb5a5f9dad6d4ea61", func := "signalman/signalmanlaw21.PairOutage", spec := "pairOutage", unfollowed := true, recurses := true, apart := false }
def PairOutageSaid : Prop := pairOutageRow.holds Tryz.pinned (OpenSpec.ofChange pairOutageSpec)

/-- ITS FALSE NEIGHBOUR: 'it returns false'. Refute it at one input. -/
def pairOutageWrong : ChangeSpec := { name := "pairOutage", fn := fun _ => fun
  | [d1, d2, d3, d4] => { results := [.lit (.bool false)], args := [d1, d2, d3, d4] }
  | _ => none }
def PairOutageWrongFalsely : Prop := pairOutageRow.holds Tryz.pinned (OpenSpec.ofChange pairOutageWrong)

/-- 'signalmanlaw21.PairSame': WHATEVER THE INPUT: true; the input reads as it did. -/
def pairSameSpec : ChangeSpec := { name := "pairSame", fn := fun _ => fun
  | [d1, d2, d3] => { results := [.lit (.bool true)], args := [d1, d2, d3] }
  | _ => none }
def pairSameRow : OpenClaim := { program := "ytdfljbffomhchaagreat", sum := "11ba4a676dcced2c43c3f620f0db1ed158f3b6a0fbb7647bb5a5f9dad6d4ea61", func := "signalman/signalmanlaw21.PairSame", spec := "pairSame", unfollowed := true, recurses := true, apart := false }
def PairSameSaid : Prop := pairSameRow.holds Tryz.pinned (OpenSpec.ofChange pairSameSpec)

/-- ITS FALSE NEIGHBOUR: 'it returns false'. Refute it at one input. -/
def pairSameWrong : ChangeSpec := { name := "pairSame", fn := fun _ => fun
  | [d1, d2, d3] => { results := [.lit (.bool false)], args := [d1, d2, d3] }
  | _ => none }
def PairSameWrongFalsely : Prop := pairSameRow.holds Tryz.pinned (OpenSpec.ofChange pairSameWrong)

/-- 'signalmanlaw21.PairDoes': WHATEVER THE INPUT: true; the input reads as it did. -/
def pairDoesSpec : ChangeSpec := { name := "pairDoes", fn := fun _ => fun
  | [d] => { results := [.lit (.bool true)], args := [d] }
  | _ => none }
def pairDoesRow : OpenClaim := { program := "ytdfljbffomhchaagreat", sum := "11ba4a676dcced2c43c3f620f0db1ed158f3b6a0fbb7647bb5a5f9dad6d4ea61", func := "signalman/signalmanlaw21.PairDoes", spec := "pairDoes", unfollowed := true, recurses := true, apart := false }
def PairDoesSaid : Prop := pairDoesRow.holds Tryz.pinned (OpenSpec.ofChange pairDoesSpec)

/-- ITS FALSE NEIGHBOUR: 'it returns false'. Refute it at one input. -/
def pairDoesWrong : ChangeSpec := { name := "pairDoes", fn := fun _ => fun
  | [d] => { results := [.lit (.bool false)], args := [d] }
  | _ => none }
def PairDoesWrongFalsely : Prop := pairDoesRow.holds Tryz.pinned (OpenSpec.ofChange pairDoesWrong)

/-- 'signalmanlaw21.PairBounds': WHATEVER THE INPUT: true; the input reads as it did. -/
def pairBoundsSpec : ChangeSpec := { name := "pairBounds", fn := fun _ => fun
  | [d1, d2, d3, d4, d5] => { results := [.lit (.bool true)], args := [d1, d2, d3, d4, d5] }
  | _ => none }
def pairBoundsRow : OpenClaim := { program := "ytdfljbffomhchaagreat", sum := "11ba4a676dcced2c43c3f620f0db1ed158f3b6a0fbb7647bb5a5f9dad6d4ea61", func := "signalman/signalmanlaw21.PairBounds", spec := "pairBounds", unfollowed := true, recurses := true, apart := false }
def PairBoundsSaid : Prop := pairBoundsRow.holds Tryz.pinned (OpenSpec.ofChange pairBoundsSpec)

/-- ITS FALSE NEIGHBOUR: 'it returns false'. Refute it at one input. -/
def pairBoundsWrong : ChangeSpec := { name := "pairBounds", fn := fun _ => fun
  | [d1, d2, d3, d4, d5] => { results := [.lit (.bool false)], args := [d1, d2, d3, d4, d5] }
  | _ => none }
def PairBoundsWrongFalsely : Prop := pairBoundsRow.holds Tryz.pinned (OpenSpec.ofChange pairBoundsWrong)

/-- 'signalmanlaw22.LimitServes': WHATEVER THE INPUT: true; the input reads as it did. -/
def limitServesSpec : ChangeSpec := { name := "limitServes", fn := fun _ => fun
  | [d1, d2, d3, d4] => { results := [.lit (.bool true)], args := [d1, d2, d3, d4] }
  | _ => none }
def limitServesRow : OpenClaim := { program := "ytdfljbffomhchaagreat", sum := "11ba4a676dcced2c43c3f620f0db1ed158f3b6a0fbb7647bb5a5f9dad6d4ea61", func := "signalman/signalmanlaw22.LimitServes", spec := "limitServes", unfollowed := true, recurses := true, apart := false }
def LimitServesSaid : Prop := limitServesRow.holds Tryz.pinned (OpenSpec.ofChange limitServesSpec)

/-- ITS FALSE NEIGHBOUR: 'it returns false'. Refute it at one input. -/
def limitServesWrong : ChangeSpec := { name := "limitServes", fn := fun _ => fun
  | [d1, d2, d3, d4] => { results := [.lit (.bool false)], args := [d1, d2, d3, d4] }
  | _ => none }
def LimitServesWrongFalsely : Prop := limitServesRow.holds Tryz.pinned (OpenSpec.ofChange limitServesWrong)

/- THE SECOND FORM. 'bulk': how many values and letters a reading holds, each counted each time it is reached (what is shared counts as often as it is met; a slice's spare places count too). A statement '..UptoSaid' is the law's where the arguments, and the package variables that the reading takes, are together of bulk at most 1048576: NARROWER than '..Said'. Prove '..Said' where nothing that the law and all that it calls make is longer than what came in: it says more and counts as full. Else prove '..UptoSaid'. A law counts once. -/
mutual
def uptoBulk {H : Type} : DataW H → Nat
  | .lit (.string bytes) => bytes.length + 1
  | .lit _ => 1
  | .nil => 1
  | .ptr d => uptoBulk d + 1
  | .slice elems spare => uptoBulkAll elems + uptoBulkAll spare + 1
  | .agg parts => uptoBulkAll parts + 1
  | .iface _ d => uptoBulk d + 1
  | .map entries => uptoBulkEntries entries + 1
  | .held _ => 1
def uptoBulkAll {H : Type} : List (DataW H) → Nat
  | [] => 0
  | d :: r => uptoBulk d + uptoBulkAll r
def uptoBulkEntries {H : Type} : List (Lit × DataW H) → Nat
  | [] => 0
  | x :: r => uptoBulkEntry x + uptoBulkEntries r
def uptoBulkEntry {H : Type} : Lit × DataW H → Nat
  | (.string bytes, d) => bytes.length + uptoBulk d + 1
  | (_, d) => uptoBulk d + 1
 end
def uptoSmall : (H : Type) → List (DataW H) → Bool := fun _ ds => decide (uptoBulkAll ds ≤ 1048576)
def OpenSpec.upto (s : _root_.Go.ChangeSpec) : _root_.Go.OpenSpec := { _root_.Go.OpenSpec.ofChange s with cond := some uptoSmall }

/-- 'signalmantop.TopPrefix', WHERE WHAT IT READS IS OF BULK AT MOST 1048576: true; the input reads as it did. -/
def topPrefixUptoRow : OpenClaim := { program := "ytdfljbffomhchaagreat", sum := "11ba4a676dcced2c43c3f620f0db1ed158f3b6a0fbb7647bb5a5f9dad6d4ea61", func := "signalman/signalmantop.TopPrefix", spec := "topPrefix", unfollowed := true, recurses := true, apart := false, narrowed := true }
def TopPrefixUptoSaid : Prop := topPrefixUptoRow.holds Tryz.pinned (OpenSpec.upto topPrefixSpec)

/-- 'signalmanlaw18.FetchNil', WHERE WHAT IT READS IS OF BULK AT MOST 1048576: true; the input reads as it did. -/
def fetchNilUptoRow : OpenClaim := { program := "ytdfljbffomhchaagreat", sum := "11ba4a676dcced2c43c3f620f0db1ed158f3b6a0fbb7647bb5a5f9dad6d4ea61", func := "signalman/signalmanlaw18.FetchNil", spec := "fetchNil", unfollowed := true, recurses := true, apart := false, narrowed := true }
def FetchNilUptoSaid : Prop := fetchNilUptoRow.holds Tryz.pinned (OpenSpec.upto fetchNilSpec)

/-- 'signalmanlaw18.FetchTells', WHERE WHAT IT READS IS OF BULK AT MOST 1048576: true; the input reads as it did. -/
def fetchTellsUptoRow : OpenClaim := { program := "ytdfljbffomhchaagreat", sum := "11ba4a676dcced2c43c3f620f0db1ed158f3b6a0fbb7647bb5a5f9dad6d4ea61", func := "signalman/signalmanlaw18.FetchTells", spec := "fetchTells", unfollowed := true, recurses := true, apart := false, narrowed := true }
def FetchTellsUptoSaid : Prop := fetchTellsUptoRow.holds Tryz.pinned (OpenSpec.upto fetchTellsSpec)

/-- 'signalmanlaw18.FetchAgain', WHERE WHAT IT READS IS OF BULK AT MOST 1048576: true; the input reads as it did. -/
def fetchAgainUptoRow : OpenClaim := { program := "ytdfljbffomhchaagreat", sum := "11ba4a676dcced2c43c3f620f0db1ed158f3b6a0fbb7647bb5a5f9dad6d4ea61", func := "signalman/signalmanlaw18.FetchAgain", spec := "fetchAgain", unfollowed := true, recurses := true, apart := false, narrowed := true }
def FetchAgainUptoSaid : Prop := fetchAgainUptoRow.holds Tryz.pinned (OpenSpec.upto fetchAgainSpec)

/-- 'signalmanlaw18.FetchBoth', WHERE WHAT IT READS IS OF BULK AT MOST 1048576: true; the input reads as it did. -/
def fetchBothUptoRow : OpenClaim := { program := "ytdfljbffomhchaagreat", sum := "11ba4a676dcced2c43c3f620f0db1ed158f3b6a0fbb7647bb5a5f9dad6d4ea61", func := "signalman/signalmanlaw18.FetchBoth", spec := "fetchBoth", unfollowed := true, recurses := true, apart := false, narrowed := true }
def FetchBothUptoSaid : Prop := fetchBothUptoRow.holds Tryz.pinned (OpenSpec.upto fetchBothSpec)

/-- 'signalmanlaw19.PostAlways', WHERE WHAT IT READS IS OF BULK AT MOST 1048576: true; the input reads as it did. -/
def postAlwaysUptoRow : OpenClaim := { program := "ytdfljbffomhchaagreat", sum := "11ba4a676dcced2c43c3f620f0db1ed158f3b6a0fbb7647bb5a5f9dad6d4ea61", func := "signalman/signalmanlaw19.PostAlways", spec := "postAlways", unfollowed := true, recurses := true, apart := false, narrowed := true }
def PostAlwaysUptoSaid : Prop := postAlwaysUptoRow.holds Tryz.pinned (OpenSpec.upto postAlwaysSpec)

/-- 'signalmantop.TopTurned', WHERE WHAT IT READS IS OF BULK AT MOST 1048576: true; the input reads as it did. -/
def topTurnedUptoRow : OpenClaim := { program := "ytdfljbffomhchaagreat", sum := "11ba4a676dcced2c43c3f620f0db1ed158f3b6a0fbb7647bb5a5f9dad6d4ea61", func := "signalman/signalmantop.TopTurned", spec := "topTurned", unfollowed := true, recurses := true, apart := false, narrowed := true }
def TopTurnedUptoSaid : Prop := topTurnedUptoRow.holds Tryz.pinned (OpenSpec.upto topTurnedSpec)

/-- 'signalmanlaw19.PostSends', WHERE WHAT IT READS IS OF BULK AT MOST 1048576: true; the input reads as it did. -/
def postSendsUptoRow : OpenClaim := { program := "ytdfljbffomhchaagreat", sum := "11ba4a676dcced2c43c3f620f0db1ed158f3b6a0fbb7647bb5a5f9dad6d4ea61", func := "signalman/signalmanlaw19.PostSends", spec := "postSends", unfollowed := true, recurses := true, apart := false, narrowed := true }
def PostSendsUptoSaid : Prop := postSendsUptoRow.holds Tryz.pinned (OpenSpec.upto postSendsSpec)

/-- 'signalmanlaw19.PostHears', WHERE WHAT IT READS IS OF BULK AT MOST 1048576: true; the input reads as it did. -/
def postHearsUptoRow : OpenClaim := { program := "ytdfljbffomhchaagreat", sum := "11ba4a676dcced2c43c3f620f0db1ed158f3b6a0fbb7647bb5a5f9dad6d4ea61", func := "signalman/signalmanlaw19.PostHears", spec := "postHears", unfollowed := true, recurses := true, apart := false, narrowed := true }
def PostHearsUptoSaid : Prop := postHearsUptoRow.holds Tryz.pinned (OpenSpec.upto postHearsSpec)

/-- 'signalmanlaw19.PostMessages', WHERE WHAT IT READS IS OF BULK AT MOST 1048576: true; the input reads as it did. -/
def postMessagesUptoRow : OpenClaim := { program := "ytdfljbffomhchaagreat", sum := "11ba4a676dcced2c43c3f620f0db1ed158f3b6a0fbb7647bb5a5f9dad6d4ea61", func := "signalman/signalmanlaw19.PostMessages", spec := "postMessages", unfollowed := true, recurses := true, apart := false, narrowed := true }
def PostMessagesUptoSaid : Prop := postMessagesUptoRow.holds Tryz.pinned (OpenSpec.upto postMessagesSpec)

/-- 'signalmanlaw19.PostBegins', WHERE WHAT IT READS IS OF BULK AT MOST 1048576: true; the input reads as it did. -/
def postBeginsUptoRow : OpenClaim := { program := "ytdfljbffomhchaagreat", sum := "11ba4a676dcced2c43c3f620f0db1ed158f3b6a0fbb7647bb5a5f9dad6d4ea61", func := "signalman/signalmanlaw19.PostBegins", spec := "postBegins", unfollowed := true, recurses := true, apart := false, narrowed := true }
def PostBeginsUptoSaid : Prop := postBeginsUptoRow.holds Tryz.pinned (OpenSpec.upto postBeginsSpec)

/-- 'signalmanlaw21.PairStops', WHERE WHAT IT READS IS OF BULK AT MOST 1048576: true; the input reads as it did. -/
def pairStopsUptoRow : OpenClaim := { program := "ytdfljbffomhchaagreat", sum := "11ba4a676dcced2c43c3f620f0db1ed158f3b6a0fbb7647bb5a5f9dad6d4ea61", func := "signalman/signalmanlaw21.PairStops", spec := "pairStops", unfollowed := true, recurses := true, apart := false, narrowed := true }
def PairStopsUptoSaid : Prop := pairStopsUptoRow.holds Tryz.pinned (OpenSpec.upto pairStopsSpec)

/-- 'signalmantop.TopCut', WHERE WHAT IT READS IS OF BULK AT MOST 1048576: true; the input reads as it did. -/
def topCutUptoRow : OpenClaim := { program := "ytdfljbffomhchaagreat", sum := "11ba4a676dcced2c43c3f620f0db1ed158f3b6a0fbb7647bb5a5f9dad6d4ea61", func := "signalman/signalmantop.TopCut", spec := "topCut", unfollowed := true, recurses := true, apart := false, narrowed := true }
def TopCutUptoSaid : Prop := topCutUptoRow.holds Tryz.pinned (OpenSpec.upto topCutSpec)

/-- 'signalmanlaw21.PairTells', WHERE WHAT IT READS IS OF BULK AT MOST 1048576: true; the input reads as it did. -/
def pairTellsUptoRow : OpenClaim := { program := "ytdfljbffomhchaagreat", sum := "11ba4a676dcced2c43c3f620f0db1ed158f3b6a0fbb7647bb5a5f9dad6d4ea61", func := "signalman/signalmanlaw21.PairTells", spec := "pairTells", unfollowed := true, recurses := true, apart := false, narrowed := true }
def PairTellsUptoSaid : Prop := pairTellsUptoRow.holds Tryz.pinned (OpenSpec.upto pairTellsSpec)

/-- 'signalmanlaw21.PairOutage', WHERE WHAT IT READS IS OF BULK AT MOST 1048576: true; the input reads as it did. -/
def pairOutageUptoRow : OpenClaim := { program := "ytdfljbffomhchaagreat", sum := "11ba4a676dcced2c43c3f620f0db1ed158f3b6a0fbb7647bb5a5f9dad6d4ea61", func := "signalman/signalmanlaw21.PairOutage", spec := "pairOutage", unfollowed := true, recurses := true, apart := false, narrowed := true }
def PairOutageUptoSaid : Prop := pairOutageUptoRow.holds Tryz.pinned (OpenSpec.upto pairOutageSpec)

/-- 'signalmanlaw21.PairSame', WHERE WHAT IT READS IS OF BULK AT MOST 1048576: true; the input reads as it did. -/
def pairSameUptoRow : OpenClaim := { program := "ytdfljbffomhchaagreat", sum := "11ba4a676dcced2c43c3f620f0db1ed158f3b6a0fbb7647bb5a5f9dad6d4ea61", func := "signalman/signalmanlaw21.PairSame", spec := "pairSame", unfollowed := true, recurses := true, apart := false, narrowed := true }
def PairSameUptoSaid : Prop := pairSameUptoRow.holds Tryz.pinned (OpenSpec.upto pairSameSpec)

/-- 'signalmanlaw21.PairDoes', WHERE WHAT IT READS IS OF BULK AT MOST 1048576: true; the input reads as it did. -/
def pairDoesUptoRow : OpenClaim := { program := "ytdfljbffomhchaagreat", sum := "11ba4a676dcced2c43c3f620f0db1ed158f3b6a0fbb7647bb5a5f9dad6d4ea61", func := "signalman/signalmanlaw21.PairDoes", spec := "pairDoes", unfollowed := true, recurses := true, apart := false, narrowed := true }
def PairDoesUptoSaid : Prop := pairDoesUptoRow.holds Tryz.pinned (OpenSpec.upto pairDoesSpec)

/-- 'signalmanlaw21.PairBounds', WHERE WHAT IT READS IS OF BULK AT MOST 1048576: true; the input reads as it did. -/
def pairBoundsUptoRow : OpenClaim := { program := "ytdfljbffomhchaagreat", sum := "11ba4a676dcced2c43c3f620f0db1ed158f3b6a0fbb7647bb5a5f9dad6d4ea61", func := "signalman/signalmanlaw21.PairBounds", spec := "pairBounds", unfollowed := true, recurses := true, apart := false, narrowed := true }
def PairBoundsUptoSaid : Prop := pairBoundsUptoRow.holds Tryz.pinned (OpenSpec.upto pairBoundsSpec)

/-- 'signalmanlaw22.LimitServes', WHERE WHAT IT READS IS OF BULK AT MOST 1048576: true; the input reads as it did. -/
def limitServesUptoRow : OpenClaim := { program := "ytdfljbffomhchaagreat", sum := "11ba4a676dcced2c43c3f620f0db1ed158f3b6a0fbb7647bb5a5f9dad6d4ea61", func := "signalman/signalmanlaw22.LimitServes", spec := "limitServes", unfollowed := true, recurses := true, apart := false, narrowed := true }
def LimitServesUptoSaid : Prop := limitServesUptoRow.holds Tryz.pinned (OpenSpec.upto limitServesSpec)

end Rows
end Go.Proofs.YtdfljbffomhchaaGreat
