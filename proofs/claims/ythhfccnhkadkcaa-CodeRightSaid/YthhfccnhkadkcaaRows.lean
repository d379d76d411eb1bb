/-
  No cell of these rows narrows 'for every input' (looked for: loops, veiled, ifaces, maps, wideKeys, modest, calm, conditions, laid).
  DERIVED. THE GIVEN ROWS OF THIS SEAT. 28 by the template 'for every input the law returns true; each argument reads behind the call as it read before'; 0 by the template 'total and deterministic' (their statements: YthhfccnhkadkcaaTotals.lean).
  GIVEN WITH THE SEED: the statements are not yours to turn. If you find one false, say at which input.
  Laid BY PROGRAM, IN A SANDBOX (cutbox-rows.mjs): the forced cells as the released guide's own fill.sh prints them over the translation f80ec07adfdf82c9… (all of the seat's roots in one cut). By AI agents, Wed Nov 11 2026. No macro, syntax, notation, axiom, sorry.
-/
import Derived.Test.YthhfccnhkadkcaaChecked
import GoSem.Claim
import GoSem.ClaimJoined
import GoSem.ClaimMapViews
import Derived.JoinedTies
import Derived.KernelRfl
namespace Go.Proofs.Ythhfccnhkadkcaa
/- THE CELL 'sum', in the pinned program and in every row, IS THE sha256 OF THE DUMP (.gsa) THAT YthhfccnhkadkcaaProg.lean LOADS. Nothing in Lean hashes anything: it is a label: what it is worth is what the hold of that sum in a sandbox is worth. -/
noncomputable def Try.pinned : Pinned := { name := "ythhfccnhkadkcaa", sum := "f80ec07adfdf82c9d0d2f363bdf3cd0aebe9b489d5c8dd8bd8ddd69a3ddab187", checked := Try.checked }
namespace Rows
def none {H : Type} : Left H := { results := [], args := [] }

/-- 'belfrylaw21.FadeComes': WHATEVER THE INPUT: true; the input reads as it did. -/
def fadeComesSpec : ChangeSpec := { name := "fadeComes", fn := fun _ => fun
  | [d] => { results := [.lit (.bool true)], args := [d] }
  | _ => none }
def fadeComesRow : OpenClaim := { program := "ythhfccnhkadkcaa", sum := "f80ec07adfdf82c9d0d2f363bdf3cd0aebe9b489d5c8dd8bd8ddd69a3ddab187", func := "belfry/belfrylaw21.FadeComes", spec := "fadeComes", unfollowed := true, recurses := true, apart := false }
def FadeComesSaid : Prop := fadeComesRow.holds Try.pinned (OpenSpec.ofChange fadeComesSpec)

/-- ITS FALSE NEIGHBOUR: 'it returns false'. Refute it at one input. -/
def fadeComesWrong : ChangeSpec := { name := "fadeComes", fn := fun _ => fun
  | [d] => { results := [.lit (.bool false)], args := [d] }
  | _ => none }
def FadeComesWrongFalsely : Prop := fadeComesRow.holds Try.pinned (OpenSpec.ofChange fadeComesWrong)

/-- 'belfrylaw21.FadeScales': WHATEVER THE INPUT: true; the input reads as it did. -/
def fadeScalesSpec : ChangeSpec := { name := "fadeScales", fn := fun _ => fun
  | [d1, d2, d3] => { results := [.lit (.bool true)], args := [d1, d2, d3] }
  | _ => none }
def fadeScalesRow : OpenClaim := { program := "ythhfccnhkadkcaa", sum := "f80ec07adfdf82c9d0d2f363bdf3cd0aebe9b489d5c8dd8bd8ddd69a3ddab187", func := "belfry/belfrylaw21.FadeScales", spec := "fadeScales", unfollowed := true, recurses := true, apart := false }
def FadeScalesSaid : Prop := fadeScalesRow.holds Try.pinned (OpenSpec.ofChange fadeScalesSpec)

/-- ITS FALSE NEIGHBOUR: 'it returns false'. Refute it at one input. -/
def fadeScalesWrong : ChangeSpec := { name := "fadeScales", fn := fun _ => fun
  | [d1, d2, d3] => { results := [.lit (.bool false)], args := [d1, d2, d3] }
  | _ => none }
def FadeScalesWrongFalsely : Prop := fadeScalesRow.holds Try.pinned (OpenSpec.ofChange fadeScalesWrong)

/-- 'belfrylaw21.FadeAlone': WHATEVER THE INPUT: true; the input reads as it did. -/
def fadeAloneSpec : ChangeSpec := { name := "fadeAlone", fn := fun _ => fun
  | [d1, d2] => { results := [.lit (.bool true)], args := [d1, d2] }
  | _ => none }
def fadeAloneRow : OpenClaim := { program := "ythhfccnhkadkcaa", sum := "f80ec07adfdf82c9d0d2f363bdf3cd0aebe9b489d5c8dd8bd8ddd69a3ddab187", func := "belfry/belfrylaw21.FadeAlone", spec := "fadeAlone", unfollowed := true, recurses := true, apart := false }
def FadeAloneSaid : Prop := fadeAloneRow.holds Try.pinned (OpenSpec.ofChange fadeAloneSpec)

/-- ITS FALSE NEIGHBOUR: 'it returns false'. Refute it at one input. -/
def fadeAloneWrong : ChangeSpec := { name := "fadeAlone", fn := fun _ => fun
  | [d1, d2] => { results := [.lit (.bool false)], args := [d1, d2] }
  | _ => none }
def FadeAloneWrongFalsely : Prop := fadeAloneRow.holds Try.pinned (OpenSpec.ofChange fadeAloneWrong)

/-- 'belfrylaw21.FadePlays': WHATEVER THE INPUT: true; the input reads as it did. -/
def fadePlaysSpec : ChangeSpec := { name := "fadePlays", fn := fun _ => fun
  | [d1, d2, d3, d4] => { results := [.lit (.bool true)], args := [d1, d2, d3, d4] }
  | _ => none }
def fadePlaysRow : OpenClaim := { program := "ythhfccnhkadkcaa", sum := "f80ec07adfdf82c9d0d2f363bdf3cd0aebe9b489d5c8dd8bd8ddd69a3ddab187", func := "belfry/belfrylaw21.FadePlays", spec := "fadePlays", unfollowed := true, recurses := true, apart := false }
def FadePlaysSaid : Prop := fadePlaysRow.holds Try.pinned (OpenSpec.ofChange fadePlaysSpec)

/-- ITS FALSE NEIGHBOUR: 'it returns false'. Refute it at one input. -/
def fadePlaysWrong : ChangeSpec := { name := "fadePlays", fn := fun _ => fun
  | [d1, d2, d3, d4] => { results := [.lit (.bool false)], args := [d1, d2, d3, d4] }
  | _ => none }
def FadePlaysWrongFalsely : Prop := fadePlaysRow.holds Try.pinned (OpenSpec.ofChange fadePlaysWrong)

/-- 'belfrylaw13.PvqCounts': WHATEVER THE INPUT: true; the input reads as it did. -/
def pvqCountsSpec : ChangeSpec := { name := "pvqCounts", fn := fun _ => fun
  | [d1, d2] => { results := [.lit (.bool true)], args := [d1, d2] }
  | _ => none }
def pvqCountsRow : OpenClaim := { program := "ythhfccnhkadkcaa", sum := "f80ec07adfdf82c9d0d2f363bdf3cd0aebe9b489d5c8dd8bd8ddd69a3ddab187", func := "belfry/belfrylaw13.PvqCounts", spec := "pvqCounts", apart := false }
def PvqCountsSaid : Prop := pvqCountsRow.holds Try.pinned (OpenSpec.ofChange pvqCountsSpec)

/-- ITS FALSE NEIGHBOUR: 'it returns false'. Refute it at one input. -/
def pvqCountsWrong : ChangeSpec := { name := "pvqCounts", fn := fun _ => fun
  | [d1, d2] => { results := [.lit (.bool false)], args := [d1, d2] }
  | _ => none }
def PvqCountsWrongFalsely : Prop := pvqCountsRow.holds Try.pinned (OpenSpec.ofChange pvqCountsWrong)

/-- 'belfrylaw13.PvqBack': WHATEVER THE INPUT: true; the input reads as it did. -/
def pvqBackSpec : ChangeSpec := { name := "pvqBack", fn := fun _ => fun
  | [d1, d2, d3, d4] => { results := [.lit (.bool true)], args := [d1, d2, d3, d4] }
  | _ => none }
def pvqBackRow : OpenClaim := { program := "ythhfccnhkadkcaa", sum := "f80ec07adfdf82c9d0d2f363bdf3cd0aebe9b489d5c8dd8bd8ddd69a3ddab187", func := "belfry/belfrylaw13.PvqBack", spec := "pvqBack", unfollowed := true, recurses := true, apart := false }
def PvqBackSaid : Prop := pvqBackRow.holds Try.pinned (OpenSpec.ofChange pvqBackSpec)

/-- ITS FALSE NEIGHBOUR: 'it returns false'. Refute it at one input. -/
def pvqBackWrong : ChangeSpec := { name := "pvqBack", fn := fun _ => fun
  | [d1, d2, d3, d4] => { results := [.lit (.bool false)], args := [d1, d2, d3, d4] }
  | _ => none }
def PvqBackWrongFalsely : Prop := pvqBackRow.holds Try.pinned (OpenSpec.ofChange pvqBackWrong)

/-- 'belfrylaw13.PvqOrder': WHATEVER THE INPUT: true; the input reads as it did. -/
def pvqOrderSpec : ChangeSpec := { name := "pvqOrder", fn := fun _ => fun
  | [d1, d2, d3, d4] => { results := [.lit (.bool true)], args := [d1, d2, d3, d4] }
  | _ => none }
def pvqOrderRow : OpenClaim := { program := "ythhfccnhkadkcaa", sum := "f80ec07adfdf82c9d0d2f363bdf3cd0aebe9b489d5c8dd8bd8ddd69a3ddab187", func := "belfry/belfrylaw13.PvqOrder", spec := "pvqOrder", unfollowed := true, recurses := true, apart := false }
def PvqOrderSaid : Prop := pvqOrderRow.holds Try.pinned (OpenSpec.ofChange pvqOrderSpec)

/-- ITS FALSE NEIGHBOUR: 'it returns false'. Refute it at one input. -/
def pvqOrderWrong : ChangeSpec := { name := "pvqOrder", fn := fun _ => fun
  | [d1, d2, d3, d4] => { results := [.lit (.bool false)], args := [d1, d2, d3, d4] }
  | _ => none }
def PvqOrderWrongFalsely : Prop := pvqOrderRow.holds Try.pinned (OpenSpec.ofChange pvqOrderWrong)

/-- 'belfrylaw13.PvqAll': WHATEVER THE INPUT: true; the input reads as it did. -/
def pvqAllSpec : ChangeSpec := { name := "pvqAll", fn := fun _ => fun
  | [d1, d2] => { results := [.lit (.bool true)], args := [d1, d2] }
  | _ => none }
def pvqAllRow : OpenClaim := { program := "ythhfccnhkadkcaa", sum := "f80ec07adfdf82c9d0d2f363bdf3cd0aebe9b489d5c8dd8bd8ddd69a3ddab187", func := "belfry/belfrylaw13.PvqAll", spec := "pvqAll", unfollowed := true, recurses := true, apart := false }
def PvqAllSaid : Prop := pvqAllRow.holds Try.pinned (OpenSpec.ofChange pvqAllSpec)

/-- ITS FALSE NEIGHBOUR: 'it returns false'. Refute it at one input. -/
def pvqAllWrong : ChangeSpec := { name := "pvqAll", fn := fun _ => fun
  | [d1, d2] => { results := [.lit (.bool false)], args := [d1, d2] }
  | _ => none }
def PvqAllWrongFalsely : Prop := pvqAllRow.holds Try.pinned (OpenSpec.ofChange pvqAllWrong)

/-- 'belfrylaw13.PvqSplit': WHATEVER THE INPUT: true; the input reads as it did. -/
def pvqSplitSpec : ChangeSpec := { name := "pvqSplit", fn := fun _ => fun
  | [d1, d2, d3] => { results := [.lit (.bool true)], args := [d1, d2, d3] }
  | _ => none }
def pvqSplitRow : OpenClaim := { program := "ythhfccnhkadkcaa", sum := "f80ec07adfdf82c9d0d2f363bdf3cd0aebe9b489d5c8dd8bd8ddd69a3ddab187", func := "belfry/belfrylaw13.PvqSplit", spec := "pvqSplit", unfollowed := true, recurses := true, apart := false }
def PvqSplitSaid : Prop := pvqSplitRow.holds Try.pinned (OpenSpec.ofChange pvqSplitSpec)

/-- ITS FALSE NEIGHBOUR: 'it returns false'. Refute it at one input. -/
def pvqSplitWrong : ChangeSpec := { name := "pvqSplit", fn := fun _ => fun
  | [d1, d2, d3] => { results := [.lit (.bool false)], args := [d1, d2, d3] }
  | _ => none }
def PvqSplitWrongFalsely : Prop := pvqSplitRow.holds Try.pinned (OpenSpec.ofChange pvqSplitWrong)

/-- 'belfrylaw13.PvqPlays': WHATEVER THE INPUT: true; the input reads as it did. -/
def pvqPlaysSpec : ChangeSpec := { name := "pvqPlays", fn := fun _ => fun
  | [d1, d2, d3, d4] => { results := [.lit (.bool true)], args := [d1, d2, d3, d4] }
  | _ => none }
def pvqPlaysRow : OpenClaim := { program := "ythhfccnhkadkcaa", sum := "f80ec07adfdf82c9d0d2f363bdf3cd0aebe9b489d5c8dd8bd8ddd69a3ddab187", func := "belfry/belfrylaw13.PvqPlays", spec := "pvqPlays", unfollowed := true, recurses := true, apart := false }
def PvqPlaysSaid : Prop := pvqPlaysRow.holds Try.pinned (OpenSpec.ofChange pvqPlaysSpec)

/-- ITS FALSE NEIGHBOUR: 'it returns false'. Refute it at one input. -/
def pvqPlaysWrong : ChangeSpec := { name := "pvqPlays", fn := fun _ => fun
  | [d1, d2, d3, d4] => { results := [.lit (.bool false)], args := [d1, d2, d3, d4] }
  | _ => none }
def PvqPlaysWrongFalsely : Prop := pvqPlaysRow.holds Try.pinned (OpenSpec.ofChange pvqPlaysWrong)

/-- 'belfrylaw14.PulseAll': WHATEVER THE INPUT: true; the input reads as it did. -/
def pulseAllSpec : ChangeSpec := { name := "pulseAll", fn := fun _ => fun
  | [d1, d2, d3] => { results := [.lit (.bool true)], args := [d1, d2, d3] }
  | _ => none }
def pulseAllRow : OpenClaim := { program := "ythhfccnhkadkcaa", sum := "f80ec07adfdf82c9d0d2f363bdf3cd0aebe9b489d5c8dd8bd8ddd69a3ddab187", func := "belfry/belfrylaw14.PulseAll", spec := "pulseAll", unfollowed := true, recurses := true, apart := false }
def PulseAllSaid : Prop := pulseAllRow.holds Try.pinned (OpenSpec.ofChange pulseAllSpec)

/-- ITS FALSE NEIGHBOUR: 'it returns false'. Refute it at one input. -/
def pulseAllWrong : ChangeSpec := { name := "pulseAll", fn := fun _ => fun
  | [d1, d2, d3] => { results := [.lit (.bool false)], args := [d1, d2, d3] }
  | _ => none }
def PulseAllWrongFalsely : Prop := pulseAllRow.holds Try.pinned (OpenSpec.ofChange pulseAllWrong)

/-- 'belfrylaw14.PulseTurns': WHATEVER THE INPUT: true; the input reads as it did. -/
def pulseTurnsSpec : ChangeSpec := { name := "pulseTurns", fn := fun _ => fun
  | [d1, d2, d3] => { results := [.lit (.bool true)], args := [d1, d2, d3] }
  | _ => none }
def pulseTurnsRow : OpenClaim := { program := "ythhfccnhkadkcaa", sum := "f80ec07adfdf82c9d0d2f363bdf3cd0aebe9b489d5c8dd8bd8ddd69a3ddab187", func := "belfry/belfrylaw14.PulseTurns", spec := "pulseTurns", unfollowed := true, recurses := true, apart := false }
def PulseTurnsSaid : Prop := pulseTurnsRow.holds Try.pinned (OpenSpec.ofChange pulseTurnsSpec)

/-- ITS FALSE NEIGHBOUR: 'it returns false'. Refute it at one input. -/
def pulseTurnsWrong : ChangeSpec := { name := "pulseTurns", fn := fun _ => fun
  | [d1, d2, d3] => { results := [.lit (.bool false)], args := [d1, d2, d3] }
  | _ => none }
def PulseTurnsWrongFalsely : Prop := pulseTurnsRow.holds Try.pinned (OpenSpec.ofChange pulseTurnsWrong)

/-- 'belfrylaw18.GiveLouder': WHATEVER THE INPUT: true; the input reads as it did. -/
def giveLouderSpec : ChangeSpec := { name := "giveLouder", fn := fun _ => fun
  | [d1, d2, d3] => { results := [.lit (.bool true)], args := [d1, d2, d3] }
  | _ => none }
def giveLouderRow : OpenClaim := { program := "ythhfccnhkadkcaa", sum := "f80ec07adfdf82c9d0d2f363bdf3cd0aebe9b489d5c8dd8bd8ddd69a3ddab187", func := "belfry/belfrylaw18.GiveLouder", spec := "giveLouder", unfollowed := true, recurses := true, apart := false }
def GiveLouderSaid : Prop := giveLouderRow.holds Try.pinned (OpenSpec.ofChange giveLouderSpec)

/-- ITS FALSE NEIGHBOUR: 'it returns false'. Refute it at one input. -/
def giveLouderWrong : ChangeSpec := { name := "giveLouder", fn := fun _ => fun
  | [d1, d2, d3] => { results := [.lit (.bool false)], args := [d1, d2, d3] }
  | _ => none }
def GiveLouderWrongFalsely : Prop := giveLouderRow.holds Try.pinned (OpenSpec.ofChange giveLouderWrong)

/-- 'belfrylaw18.GiveMore': WHATEVER THE INPUT: true; the input reads as it did. -/
def giveMoreSpec : ChangeSpec := { name := "giveMore", fn := fun _ => fun
  | [d1, d2] => { results := [.lit (.bool true)], args := [d1, d2] }
  | _ => none }
def giveMoreRow : OpenClaim := { program := "ythhfccnhkadkcaa", sum := "f80ec07adfdf82c9d0d2f363bdf3cd0aebe9b489d5c8dd8bd8ddd69a3ddab187", func := "belfry/belfrylaw18.GiveMore", spec := "giveMore", unfollowed := true, recurses := true, apart := false }
def GiveMoreSaid : Prop := giveMoreRow.holds Try.pinned (OpenSpec.ofChange giveMoreSpec)

/-- ITS FALSE NEIGHBOUR: 'it returns false'. Refute it at one input. -/
def giveMoreWrong : ChangeSpec := { name := "giveMore", fn := fun _ => fun
  | [d1, d2] => { results := [.lit (.bool false)], args := [d1, d2] }
  | _ => none }
def GiveMoreWrongFalsely : Prop := giveMoreRow.holds Try.pinned (OpenSpec.ofChange giveMoreWrong)

/-- 'belfrylaw18.GiveFits': WHATEVER THE INPUT: true; the input reads as it did. -/
def giveFitsSpec : ChangeSpec := { name := "giveFits", fn := fun _ => fun
  | [d1, d2] => { results := [.lit (.bool true)], args := [d1, d2] }
  | _ => none }
def giveFitsRow : OpenClaim := { program := "ythhfccnhkadkcaa", sum := "f80ec07adfdf82c9d0d2f363bdf3cd0aebe9b489d5c8dd8bd8ddd69a3ddab187", func := "belfry/belfrylaw18.GiveFits", spec := "giveFits", unfollowed := true, recurses := true, apart := false }
def GiveFitsSaid : Prop := giveFitsRow.holds Try.pinned (OpenSpec.ofChange giveFitsSpec)

/-- ITS FALSE NEIGHBOUR: 'it returns false'. Refute it at one input. -/
def giveFitsWrong : ChangeSpec := { name := "giveFits", fn := fun _ => fun
  | [d1, d2] => { results := [.lit (.bool false)], args := [d1, d2] }
  | _ => none }
def GiveFitsWrongFalsely : Prop := giveFitsRow.holds Try.pinned (OpenSpec.ofChange giveFitsWrong)

/-- 'belfrylaw18.GivePlays': WHATEVER THE INPUT: true; the input reads as it did. -/
def givePlaysSpec : ChangeSpec := { name := "givePlays", fn := fun _ => fun
  | [d1, d2, d3] => { results := [.lit (.bool true)], args := [d1, d2, d3] }
  | _ => none }
def givePlaysRow : OpenClaim := { program := "ythhfccnhkadkcaa", sum := "f80ec07adfdf82c9d0d2f363bdf3cd0aebe9b489d5c8dd8bd8ddd69a3ddab187", func := "belfry/belfrylaw18.GivePlays", spec := "givePlays", unfollowed := true, recurses := true, apart := false }
def GivePlaysSaid : Prop := givePlaysRow.holds Try.pinned (OpenSpec.ofChange givePlaysSpec)

/-- ITS FALSE NEIGHBOUR: 'it returns false'. Refute it at one input. -/
def givePlaysWrong : ChangeSpec := { name := "givePlays", fn := fun _ => fun
  | [d1, d2, d3] => { results := [.lit (.bool false)], args := [d1, d2, d3] }
  | _ => none }
def GivePlaysWrongFalsely : Prop := givePlaysRow.holds Try.pinned (OpenSpec.ofChange givePlaysWrong)

/-- 'belfrylaw14.PulseExact': WHATEVER THE INPUT: true; the input reads as it did. -/
def pulseExactSpec : ChangeSpec := { name := "pulseExact", fn := fun _ => fun
  | [d1, d2, d3] => { results := [.lit (.bool true)], args := [d1, d2, d3] }
  | _ => none }
def pulseExactRow : OpenClaim := { program := "ythhfccnhkadkcaa", sum := "f80ec07adfdf82c9d0d2f363bdf3cd0aebe9b489d5c8dd8bd8ddd69a3ddab187", func := "belfry/belfrylaw14.PulseExact", spec := "pulseExact", unfollowed := true, recurses := true, apart := false }
def PulseExactSaid : Prop := pulseExactRow.holds Try.pinned (OpenSpec.ofChange pulseExactSpec)

/-- ITS FALSE NEIGHBOUR: 'it returns false'. Refute it at one input. -/
def pulseExactWrong : ChangeSpec := { name := "pulseExact", fn := fun _ => fun
  | [d1, d2, d3] => { results := [.lit (.bool false)], args := [d1, d2, d3] }
  | _ => none }
def PulseExactWrongFalsely : Prop := pulseExactRow.holds Try.pinned (OpenSpec.ofChange pulseExactWrong)

/-- 'belfrylaw14.PulseLeast': WHATEVER THE INPUT: true; the input reads as it did. -/
def pulseLeastSpec : ChangeSpec := { name := "pulseLeast", fn := fun _ => fun
  | [d1, d2, d3, d4] => { results := [.lit (.bool true)], args := [d1, d2, d3, d4] }
  | _ => none }
def pulseLeastRow : OpenClaim := { program := "ythhfccnhkadkcaa", sum := "f80ec07adfdf82c9d0d2f363bdf3cd0aebe9b489d5c8dd8bd8ddd69a3ddab187", func := "belfry/belfrylaw14.PulseLeast", spec := "pulseLeast", unfollowed := true, recurses := true, apart := false }
def PulseLeastSaid : Prop := pulseLeastRow.holds Try.pinned (OpenSpec.ofChange pulseLeastSpec)

/-- ITS FALSE NEIGHBOUR: 'it returns false'. Refute it at one input. -/
def pulseLeastWrong : ChangeSpec := { name := "pulseLeast", fn := fun _ => fun
  | [d1, d2, d3, d4] => { results := [.lit (.bool false)], args := [d1, d2, d3, d4] }
  | _ => none }
def PulseLeastWrongFalsely : Prop := pulseLeastRow.holds Try.pinned (OpenSpec.ofChange pulseLeastWrong)

/-- 'belfrylaw20.CodeClamps': WHATEVER THE INPUT: true; the input reads as it did. -/
def codeClampsSpec : ChangeSpec := { name := "codeClamps", fn := fun _ => fun
  | [d1, d2] => { results := [.lit (.bool true)], args := [d1, d2] }
  | _ => none }
def codeClampsRow : OpenClaim := { program := "ythhfccnhkadkcaa", sum := "f80ec07adfdf82c9d0d2f363bdf3cd0aebe9b489d5c8dd8bd8ddd69a3ddab187", func := "belfry/belfrylaw20.CodeClamps", spec := "codeClamps", unfollowed := true, recurses := true, apart := false }
def CodeClampsSaid : Prop := codeClampsRow.holds Try.pinned (OpenSpec.ofChange codeClampsSpec)

/-- ITS FALSE NEIGHBOUR: 'it returns false'. Refute it at one input. -/
def codeClampsWrong : ChangeSpec := { name := "codeClamps", fn := fun _ => fun
  | [d1, d2] => { results := [.lit (.bool false)], args := [d1, d2] }
  | _ => none }
def CodeClampsWrongFalsely : Prop := codeClampsRow.holds Try.pinned (OpenSpec.ofChange codeClampsWrong)

/-- 'belfrylaw06.AmendReach': WHATEVER THE INPUT: true; the input reads as it did. -/
def amendReachSpec : ChangeSpec := { name := "amendReach", fn := fun _ => fun
  | [d1, d2, d3] => { results := [.lit (.bool true)], args := [d1, d2, d3] }
  | _ => none }
def amendReachRow : OpenClaim := { program := "ythhfccnhkadkcaa", sum := "f80ec07adfdf82c9d0d2f363bdf3cd0aebe9b489d5c8dd8bd8ddd69a3ddab187", func := "belfry/belfrylaw06.AmendReach", spec := "amendReach", unfollowed := true, recurses := true, apart := false }
def AmendReachSaid : Prop := amendReachRow.holds Try.pinned (OpenSpec.ofChange amendReachSpec)

/-- ITS FALSE NEIGHBOUR: 'it returns false'. Refute it at one input. -/
def amendReachWrong : ChangeSpec := { name := "amendReach", fn := fun _ => fun
  | [d1, d2, d3] => { results := [.lit (.bool false)], args := [d1, d2, d3] }
  | _ => none }
def AmendReachWrongFalsely : Prop := amendReachRow.holds Try.pinned (OpenSpec.ofChange amendReachWrong)

/-- 'belfrylaw06.AmendOnly': WHATEVER THE INPUT: true; the input reads as it did. -/
def amendOnlySpec : ChangeSpec := { name := "amendOnly", fn := fun _ => fun
  | [d1, d2] => { results := [.lit (.bool true)], args := [d1, d2] }
  | _ => none }
def amendOnlyRow : OpenClaim := { program := "ythhfccnhkadkcaa", sum := "f80ec07adfdf82c9d0d2f363bdf3cd0aebe9b489d5c8dd8bd8ddd69a3ddab187", func := "belfry/belfrylaw06.AmendOnly", spec := "amendOnly", unfollowed := true, recurses := true, apart := false }
def AmendOnlySaid : Prop := amendOnlyRow.holds Try.pinned (OpenSpec.ofChange amendOnlySpec)

/-- ITS FALSE NEIGHBOUR: 'it returns false'. Refute it at one input. -/
def amendOnlyWrong : ChangeSpec := { name := "amendOnly", fn := fun _ => fun
  | [d1, d2] => { results := [.lit (.bool false)], args := [d1, d2] }
  | _ => none }
def AmendOnlyWrongFalsely : Prop := amendOnlyRow.holds Try.pinned (OpenSpec.ofChange amendOnlyWrong)

/-- 'belfrylaw06.AmendHoles': WHATEVER THE INPUT: true; the input reads as it did. -/
def amendHolesSpec : ChangeSpec := { name := "amendHoles", fn := fun _ => fun
  | [d1, d2, d3, d4] => { results := [.lit (.bool true)], args := [d1, d2, d3, d4] }
  | _ => none }
def amendHolesRow : OpenClaim := { program := "ythhfccnhkadkcaa", sum := "f80ec07adfdf82c9d0d2f363bdf3cd0aebe9b489d5c8dd8bd8ddd69a3ddab187", func := "belfry/belfrylaw06.AmendHoles", spec := "amendHoles", unfollowed := true, recurses := true, apart := false }
def AmendHolesSaid : Prop := amendHolesRow.holds Try.pinned (OpenSpec.ofChange amendHolesSpec)

/-- ITS FALSE NEIGHBOUR: 'it returns false'. Refute it at one input. -/
def amendHolesWrong : ChangeSpec := { name := "amendHoles", fn := fun _ => fun
  | [d1, d2, d3, d4] => { results := [.lit (.bool false)], args := [d1, d2, d3, d4] }
  | _ => none }
def AmendHolesWrongFalsely : Prop := amendHolesRow.holds Try.pinned (OpenSpec.ofChange amendHolesWrong)

/-- 'belfrylaw06.AmendLocates': WHATEVER THE INPUT: true; the input reads as it did. -/
def amendLocatesSpec : ChangeSpec := { name := "amendLocates", fn := fun _ => fun
  | [d1, d2] => { results := [.lit (.bool true)], args := [d1, d2] }
  | _ => none }
def amendLocatesRow : OpenClaim := { program := "ythhfccnhkadkcaa", sum := "f80ec07adfdf82c9d0d2f363bdf3cd0aebe9b489d5c8dd8bd8ddd69a3ddab187", func := "belfry/belfrylaw06.AmendLocates", spec := "amendLocates", unfollowed := true, recurses := true, apart := false }
def AmendLocatesSaid : Prop := amendLocatesRow.holds Try.pinned (OpenSpec.ofChange amendLocatesSpec)

/-- ITS FALSE NEIGHBOUR: 'it returns false'. Refute it at one input. -/
def amendLocatesWrong : ChangeSpec := { name := "amendLocates", fn := fun _ => fun
  | [d1, d2] => { results := [.lit (.bool false)], args := [d1, d2] }
  | _ => none }
def AmendLocatesWrongFalsely : Prop := amendLocatesRow.holds Try.pinned (OpenSpec.ofChange amendLocatesWrong)

/-- 'belfrylaw06.AmendFar': WHATEVER THE INPUT: true; the input reads as it did. -/
def amendFarSpec : ChangeSpec := { name := "amendFar", fn := fun _ => fun
  | [d1, d2, d3, d4] => { results := [.lit (.bool true)], args := [d1, d2, d3, d4] }
  | _ => none }
def amendFarRow : OpenClaim := { program := "ythhfccnhkadkcaa", sum := "f80ec07adfdf82c9d0d2f363bdf3cd0aebe9b489d5c8dd8bd8ddd69a3ddab187", func := "belfry/belfrylaw06.AmendFar", spec := "amendFar", unfollowed := true, recurses := true, apart := false }
def AmendFarSaid : Prop := amendFarRow.holds Try.pinned (OpenSpec.ofChange amendFarSpec)

/-- ITS FALSE NEIGHBOUR: 'it returns false'. Refute it at one input. -/
def amendFarWrong : ChangeSpec := { name := "amendFar", fn := fun _ => fun
  | [d1, d2, d3, d4] => { results := [.lit (.bool false)], args := [d1, d2, d3, d4] }
  | _ => none }
def AmendFarWrongFalsely : Prop := amendFarRow.holds Try.pinned (OpenSpec.ofChange amendFarWrong)

/-- 'belfrylaw06.AmendClean': WHATEVER THE INPUT: true; the input reads as it did. -/
def amendCleanSpec : ChangeSpec := { name := "amendClean", fn := fun _ => fun
  | [d1, d2] => { results := [.lit (.bool true)], args := [d1, d2] }
  | _ => none }
def amendCleanRow : OpenClaim := { program := "ythhfccnhkadkcaa", sum := "f80ec07adfdf82c9d0d2f363bdf3cd0aebe9b489d5c8dd8bd8ddd69a3ddab187", func := "belfry/belfrylaw06.AmendClean", spec := "amendClean", unfollowed := true, recurses := true, apart := false }
def AmendCleanSaid : Prop := amendCleanRow.holds Try.pinned (OpenSpec.ofChange amendCleanSpec)

/-- ITS FALSE NEIGHBOUR: 'it returns false'. Refute it at one input. -/
def amendCleanWrong : ChangeSpec := { name := "amendClean", fn := fun _ => fun
  | [d1, d2] => { results := [.lit (.bool false)], args := [d1, d2] }
  | _ => none }
def AmendCleanWrongFalsely : Prop := amendCleanRow.holds Try.pinned (OpenSpec.ofChange amendCleanWrong)

/-- 'belfrylaw20.CodeLoud': WHATEVER THE INPUT: true; the input reads as it did. -/
def codeLoudSpec : ChangeSpec := { name := "codeLoud", fn := fun _ => fun
  | [d1, d2] => { results := [.lit (.bool true)], args := [d1, d2] }
  | _ => none }
def codeLoudRow : OpenClaim := { program := "ythhfccnhkadkcaa", sum := "f80ec07adfdf82c9d0d2f363bdf3cd0aebe9b489d5c8dd8bd8ddd69a3ddab187", func := "belfry/belfrylaw20.CodeLoud", spec := "codeLoud", unfollowed := true, recurses := true, apart := false }
def CodeLoudSaid : Prop := codeLoudRow.holds Try.pinned (OpenSpec.ofChange codeLoudSpec)

/-- ITS FALSE NEIGHBOUR: 'it returns false'. Refute it at one input. -/
def codeLoudWrong : ChangeSpec := { name := "codeLoud", fn := fun _ => fun
  | [d1, d2] => { results := [.lit (.bool false)], args := [d1, d2] }
  | _ => none }
def CodeLoudWrongFalsely : Prop := codeLoudRow.holds Try.pinned (OpenSpec.ofChange codeLoudWrong)

/-- 'belfrylaw20.CodeNearest': WHATEVER THE INPUT: true; the input reads as it did. -/
def codeNearestSpec : ChangeSpec := { name := "codeNearest", fn := fun _ => fun
  | [d1, d2, d3] => { results := [.lit (.bool true)], args := [d1, d2, d3] }
  | _ => none }
def codeNearestRow : OpenClaim := { program := "ythhfccnhkadkcaa", sum := "f80ec07adfdf82c9d0d2f363bdf3cd0aebe9b489d5c8dd8bd8ddd69a3ddab187", func := "belfry/belfrylaw20.CodeNearest", spec := "codeNearest", unfollowed := true, recurses := true, apart := false }
def CodeNearestSaid : Prop := codeNearestRow.holds Try.pinned (OpenSpec.ofChange codeNearestSpec)

/-- ITS FALSE NEIGHBOUR: 'it returns false'. Refute it at one input. -/
def codeNearestWrong : ChangeSpec := { name := "codeNearest", fn := fun _ => fun
  | [d1, d2, d3] => { results := [.lit (.bool false)], args := [d1, d2, d3] }
  | _ => none }
def CodeNearestWrongFalsely : Prop := codeNearestRow.holds Try.pinned (OpenSpec.ofChange codeNearestWrong)

/-- 'belfrylaw20.CodeRight': WHATEVER THE INPUT: true; the input reads as it did. -/
def codeRightSpec : ChangeSpec := { name := "codeRight", fn := fun _ => fun
  | [d1, d2, d3] => { results := [.lit (.bool true)], args := [d1, d2, d3] }
  | _ => none }
def codeRightRow : OpenClaim := { program := "ythhfccnhkadkcaa", sum := "f80ec07adfdf82c9d0d2f363bdf3cd0aebe9b489d5c8dd8bd8ddd69a3ddab187", func := "belfry/belfrylaw20.CodeRight", spec := "codeRight", inPlace := ["internal/abi.NoEscape", "internal/bytealg.MakeNoZero"], unfollowed := true, recurses := true, apart := false }
def CodeRightSaid : Prop := codeRightRow.holds Try.pinned (OpenSpec.ofChange codeRightSpec)

/-- ITS FALSE NEIGHBOUR: 'it returns false'. Refute it at one input. -/
def codeRightWrong : ChangeSpec := { name := "codeRight", fn := fun _ => fun
  | [d1, d2, d3] => { results := [.lit (.bool false)], args := [d1, d2, d3] }
  | _ => none }
def CodeRightWrongFalsely : Prop := codeRightRow.holds Try.pinned (OpenSpec.ofChange codeRightWrong)

/- THE SECOND FORM. 'bulk': how many values and letters a reading holds, each counted each time it is reached (what is shared counts as often as it is met; a slice's spare places count too). A statement '..UptoSaid' is the law's where the arguments, and the package variables that the reading takes, are together of bulk at most 1048576: NARROWER than '..Said'. Prove '..Said' where nothing that the law and all that it calls make is longer than what came in: it says more and counts as full. Else prove '..UptoSaid'. A law counts once. -/
mutual
def uptoBulk {H : Type} : DataW H → Nat
  | .lit (.string bytes) => bytes.length + 1
  | .lit _ => 1
  | .nil => 1
  | .ptr d => uptoBulk d + 1
  | .slice elems spare => uptoBulkAll elems + uptoBulkAll spare + 1
  | .agg parts => uptoBulkAll parts + 1
  | .iface _ d => uptoBulk d + 1
  | .map entries => uptoBulkEntries entries + 1
  | .held _ => 1
def uptoBulkAll {H : Type} : List (DataW H) → Nat
  | [] => 0
  | d :: r => uptoBulk d + uptoBulkAll r
def uptoBulkEntries {H : Type} : List (Lit × DataW H) → Nat
  | [] => 0
  | x :: r => uptoBulkEntry x + uptoBulkEntries r
def uptoBulkEntry {H : Type} : Lit × DataW H → Nat
  | (.string bytes, d) => bytes.length + uptoBulk d + 1
  | (_, d) => uptoBulk d + 1
 end
def uptoSmall : (H : Type) → List (DataW H) → Bool := fun _ ds => decide (uptoBulkAll ds ≤ 1048576)
def OpenSpec.upto (s : _root_.Go.ChangeSpec) : _root_.Go.OpenSpec := { _root_.Go.OpenSpec.ofChange s with cond := some uptoSmall }

/-- 'belfrylaw21.FadeComes', WHERE WHAT IT READS IS OF BULK AT MOST 1048576: true; the input reads as it did. -/
def fadeComesUptoRow : OpenClaim := { program := "ythhfccnhkadkcaa", sum := "f80ec07adfdf82c9d0d2f363bdf3cd0aebe9b489d5c8dd8bd8ddd69a3ddab187", func := "belfry/belfrylaw21.FadeComes", spec := "fadeComes", unfollowed := true, recurses := true, apart := false, narrowed := true }
def FadeComesUptoSaid : Prop := fadeComesUptoRow.holds Try.pinned (OpenSpec.upto fadeComesSpec)

/-- 'belfrylaw21.FadeScales', WHERE WHAT IT READS IS OF BULK AT MOST 1048576: true; the input reads as it did. -/
def fadeScalesUptoRow : OpenClaim := { program := "ythhfccnhkadkcaa", sum := "f80ec07adfdf82c9d0d2f363bdf3cd0aebe9b489d5c8dd8bd8ddd69a3ddab187", func := "belfry/belfrylaw21.FadeScales", spec := "fadeScales", unfollowed := true, recurses := true, apart := false, narrowed := true }
def FadeScalesUptoSaid : Prop := fadeScalesUptoRow.holds Try.pinned (OpenSpec.upto fadeScalesSpec)

/-- 'belfrylaw21.FadeAlone', WHERE WHAT IT READS IS OF BULK AT MOST 1048576: true; the input reads as it did. -/
def fadeAloneUptoRow : OpenClaim := { program := "ythhfccnhkadkcaa", sum := "f80ec07adfdf82c9d0d2f363bdf3cd0aebe9b489d5c8dd8bd8ddd69a3ddab187", func := "belfry/belfrylaw21.FadeAlone", spec := "fadeAlone", unfollowed := true, recurses := true, apart := false, narrowed := true }
def FadeAloneUptoSaid : Prop := fadeAloneUptoRow.holds Try.pinned (OpenSpec.upto fadeAloneSpec)

/-- 'belfrylaw21.FadePlays', WHERE WHAT IT READS IS OF BULK AT MOST 1048576: true; the input reads as it did. -/
def fadePlaysUptoRow : OpenClaim := { program := "ythhfccnhkadkcaa", sum := "f80ec07adfdf82c9d0d2f363bdf3cd0aebe9b489d5c8dd8bd8ddd69a3ddab187", func := "belfry/belfrylaw21.FadePlays", spec := "fadePlays", unfollowed := true, recurses := true, apart := false, narrowed := true }
def FadePlaysUptoSaid : Prop := fadePlaysUptoRow.holds Try.pinned (OpenSpec.upto fadePlaysSpec)

/-- 'belfrylaw13.PvqCounts', WHERE WHAT IT READS IS OF BULK AT MOST 1048576: true; the input reads as it did. -/
def pvqCountsUptoRow : OpenClaim := { program := "ythhfccnhkadkcaa", sum := "f80ec07adfdf82c9d0d2f363bdf3cd0aebe9b489d5c8dd8bd8ddd69a3ddab187", func := "belfry/belfrylaw13.PvqCounts", spec := "pvqCounts", apart := false, narrowed := true }
def PvqCountsUptoSaid : Prop := pvqCountsUptoRow.holds Try.pinned (OpenSpec.upto pvqCountsSpec)

/-- 'belfrylaw13.PvqBack', WHERE WHAT IT READS IS OF BULK AT MOST 1048576: true; the input reads as it did. -/
def pvqBackUptoRow : OpenClaim := { program := "ythhfccnhkadkcaa", sum := "f80ec07adfdf82c9d0d2f363bdf3cd0aebe9b489d5c8dd8bd8ddd69a3ddab187", func := "belfry/belfrylaw13.PvqBack", spec := "pvqBack", unfollowed := true, recurses := true, apart := false, narrowed := true }
def PvqBackUptoSaid : Prop := pvqBackUptoRow.holds Try.pinned (OpenSpec.upto pvqBackSpec)

/-- 'belfrylaw13.PvqOrder', WHERE WHAT IT READS IS OF BULK AT MOST 1048576: true; the input reads as it did. -/
def pvqOrderUptoRow : OpenClaim := { program := "ythhfccnhkadkcaa", sum := "f80ec07adfdf82c9d0d2f363bdf3cd0aebe9b489d5c8dd8bd8ddd69a3ddab187", func := "belfry/belfrylaw13.PvqOrder", spec := "pvqOrder", unfollowed := true, recurses := true, apart := false, narrowed := true }
def PvqOrderUptoSaid : Prop := pvqOrderUptoRow.holds Try.pinned (OpenSpec.upto pvqOrderSpec)

/-- 'belfrylaw13.PvqAll', WHERE WHAT IT READS IS OF BULK AT MOST 1048576: true; the input reads as it did. -/
def pvqAllUptoRow : OpenClaim := { program := "ythhfccnhkadkcaa", sum := "f80ec07adfdf82c9d0d2f363bdf3cd0aebe9b489d5c8dd8bd8ddd69a3ddab187", func := "belfry/belfrylaw13.PvqAll", spec := "pvqAll", unfollowed := true, recurses := true, apart := false, narrowed := true }
def PvqAllUptoSaid : Prop := pvqAllUptoRow.holds Try.pinned (OpenSpec.upto pvqAllSpec)

/-- 'belfrylaw13.PvqSplit', WHERE WHAT IT READS IS OF BULK AT MOST 1048576: true; the input reads as it did. -/
def pvqSplitUptoRow : OpenClaim := { program := "ythhfccnhkadkcaa", sum := "f80ec07adfdf82c9d0d2f363bdf3cd0aebe9b489d5c8dd8bd8ddd69a3ddab187", func := "belfry/belfrylaw13.PvqSplit", spec := "pvqSplit", unfollowed := true, recurses := true, apart := false, narrowed := true }
def PvqSplitUptoSaid : Prop := pvqSplitUptoRow.holds Try.pinned (OpenSpec.upto pvqSplitSpec)

/-- 'belfrylaw13.PvqPlays', WHERE WHAT IT READS IS OF BULK AT MOST 1048576: true; the input reads as it did. -/
def pvqPlaysUptoRow : OpenClaim := { program := "ythhfccnhkadkcaa", sum := "f80ec07adfdf82c9d0d2f363bdf3cd0aebe9b489d5c8dd8bd8ddd69a3ddab187", func := "belfry/belfrylaw13.PvqPlays", spec := "pvqPlays", unfollowed := true, recurses := true, apart := false, narrowed := true }
def PvqPlaysUptoSaid : Prop := pvqPlaysUptoRow.holds Try.pinned (OpenSpec.upto pvqPlaysSpec)

/-- 'belfrylaw14.PulseAll', WHERE WHAT IT READS IS OF BULK AT MOST 1048576: true; the input reads as it did. -/
def pulseAllUptoRow : OpenClaim := { program := "ythhfccnhkadkcaa", sum := "f80ec07adfdf82c9d0d2f363bdf3cd0aebe9b489d5c8dd8bd8ddd69a3ddab187", func := "belfry/belfrylaw14.PulseAll", spec := "pulseAll", unfollowed := true, recurses := true, apart := false, narrowed := true }
def PulseAllUptoSaid : Prop := pulseAllUptoRow.holds Try.pinned (OpenSpec.upto pulseAllSpec)

/-- 'belfrylaw14.PulseTurns', WHERE WHAT IT READS IS OF BULK AT MOST 1048576: true; the input reads as it did. -/
def pulseTurnsUptoRow : OpenClaim := { program := "ythhfccnhkadkcaa", sum := "f80ec07adfdf82c9d0d2f363bdf3cd0aebe9b489d5c8dd8bd8ddd69a3ddab187", func := "belfry/belfrylaw14.PulseTurns", spec := "pulseTurns", unfollowed := true, recurses := true, apart := false, narrowed := true }
def PulseTurnsUptoSaid : Prop := pulseTurnsUptoRow.holds Try.pinned (OpenSpec.upto pulseTurnsSpec)

/-- 'belfrylaw18.GiveLouder', WHERE WHAT IT READS IS OF BULK AT MOST 1048576: true; the input reads as it did. -/
def giveLouderUptoRow : OpenClaim := { program := "ythhfccnhkadkcaa", sum := "f80ec07adfdf82c9d0d2f363bdf3cd0aebe9b489d5c8dd8bd8ddd69a3ddab187", func := "belfry/belfrylaw18.GiveLouder", spec := "giveLouder", unfollowed := true, recurses := true, apart := false, narrowed := true }
def GiveLouderUptoSaid : Prop := giveLouderUptoRow.holds Try.pinned (OpenSpec.upto giveLouderSpec)

/-- 'belfrylaw18.GiveMore', WHERE WHAT IT READS IS OF BULK AT MOST 1048576: true; the input reads as it did. -/
def giveMoreUptoRow : OpenClaim := { program := "ythhfccnhkadkcaa", sum := "f80ec07adfdf82c9d0d2f363bdf3cd0aebe9b489d5c8dd8bd8ddd69a3ddab187", func := "belfry/belfrylaw18.GiveMore", spec := "giveMore", unfollowed := true, recurses := true, apart := false, narrowed := true }
def GiveMoreUptoSaid : Prop := giveMoreUptoRow.holds Try.pinned (OpenSpec.upto giveMoreSpec)

/-- 'belfrylaw18.GiveFits', WHERE WHAT IT READS IS OF BULK AT MOST 1048576: true; the input reads as it did. -/
def giveFitsUptoRow : OpenClaim := { program := "ythhfccnhkadkcaa", sum := "f80ec07adfdf82c9d0d2f363bdf3cd0aebe9b489d5c8dd8bd8ddd69a3ddab187", func := "belfry/belfrylaw18.GiveFits", spec := "giveFits", unfollowed := true, recurses := true, apart := false, narrowed := true }
def GiveFitsUptoSaid : Prop := giveFitsUptoRow.holds Try.pinned (OpenSpec.upto giveFitsSpec)

/-- 'belfrylaw18.GivePlays', WHERE WHAT IT READS IS OF BULK AT MOST 1048576: true; the input reads as it did. -/
def givePlaysUptoRow : OpenClaim := { program := "ythhfccnhkadkcaa", sum := "f80ec07adfdf82c9d0d2f363bdf3cd0aebe9b489d5c8dd8bd8ddd69a3ddab187", func := "belfry/belfrylaw18.GivePlays", spec := "givePlays", unfollowed := true, recurses := true, apart := false, narrowed := true }
def GivePlaysUptoSaid : Prop := givePlaysUptoRow.holds Try.pinned (OpenSpec.upto givePlaysSpec)

/-- 'belfrylaw14.PulseExact', WHERE WHAT IT READS IS OF BULK AT MOST 1048576: true; the input reads as it did. -/
def pulseExactUptoRow : OpenClaim := { program := "ythhfccnhkadkcaa", sum := "f80ec07adfdf82c9d0d2f363bdf3cd0aebe9b489d5c8dd8bd8ddd69a3ddab187", func := "belfry/belfrylaw14.PulseExact", spec := "pulseExact", unfollowed := true, recurses := true, apart := false, narrowed := true }
def PulseExactUptoSaid : Prop := pulseExactUptoRow.holds Try.pinned (OpenSpec.upto pulseExactSpec)

/-- 'belfrylaw14.PulseLeast', WHERE WHAT IT READS IS OF BULK AT MOST 1048576: true; the input reads as it did. -/
def pulseLeastUptoRow : OpenClaim := { program := "ythhfccnhkadkcaa", sum := "f80ec07adfdf82c9d0d2f363bdf3cd0aebe9b489d5c8dd8bd8ddd69a3ddab187", func := "belfry/belfrylaw14.PulseLeast", spec := "pulseLeast", unfollowed := true, recurses := true, apart := false, narrowed := true }
def PulseLeastUptoSaid : Prop := pulseLeastUptoRow.holds Try.pinned (OpenSpec.upto pulseLeastSpec)

/-- 'belfrylaw20.CodeClamps', WHERE WHAT IT READS IS OF BULK AT MOST 1048576: true; the input reads as it did. -/
def codeClampsUptoRow : OpenClaim := { program := "ythhfccnhkadkcaa", sum := "f80ec07adfdf82c9d0d2f363bdf3cd0aebe9b489d5c8dd8bd8ddd69a3ddab187", func := "belfry/belfrylaw20.CodeClamps", spec := "codeClamps", unfollowed := true, recurses := true, apart := false, narrowed := true }
def CodeClampsUptoSaid : Prop := codeClampsUptoRow.holds Try.pinned (OpenSpec.upto codeClampsSpec)

/-- 'belfrylaw06.AmendReach', WHERE WHAT IT READS IS OF BULK AT MOST 1048576: true; the input reads as it did. -/
def amendReachUptoRow : OpenClaim := { program := "ythhfccnhkadkcaa", sum := "f80ec07adfdf82c9d0d2f363bdf3cd0aebe9b489d5c8dd8bd8ddd69a3ddab187", func := "belfry/belfrylaw06.AmendReach", spec := "amendReach", unfollowed := true, recurses := true, apart := false, narrowed := true }
def AmendReachUptoSaid : Prop := amendReachUptoRow.holds Try.pinned (OpenSpec.upto amendReachSpec)

/-- 'belfrylaw06.AmendOnly', WHERE WHAT IT READS IS OF BULK AT MOST 1048576: true; the input reads as it did. -/
def amendOnlyUptoRow : OpenClaim := { program := "ythhfccnhkadkcaa", sum := "f80ec07adfdf82c9d0d2f363bdf3cd0aebe9b489d5c8dd8bd8ddd69a3ddab187", func := "belfry/belfrylaw06.AmendOnly", spec := "amendOnly", unfollowed := true, recurses := true, apart := false, narrowed := true }
def AmendOnlyUptoSaid : Prop := amendOnlyUptoRow.holds Try.pinned (OpenSpec.upto amendOnlySpec)

/-- 'belfrylaw06.AmendHoles', WHERE WHAT IT READS IS OF BULK AT MOST 1048576: true; the input reads as it did. -/
def amendHolesUptoRow : OpenClaim := { program := "ythhfccnhkadkcaa", sum := "f80ec07adfdf82c9d0d2f363bdf3cd0aebe9b489d5c8dd8bd8ddd69a3ddab187", func := "belfry/belfrylaw06.AmendHoles", spec := "amendHoles", unfollowed := true, recurses := true, apart := false, narrowed := true }
def AmendHolesUptoSaid : Prop := amendHolesUptoRow.holds Try.pinned (OpenSpec.upto amendHolesSpec)

/-- 'belfrylaw06.AmendLocates', WHERE WHAT IT READS IS OF BULK AT MOST 1048576: true; the input reads as it did. -/
def amendLocatesUptoRow : OpenClaim := { program := "ythhfccnhkadkcaa", sum := "f80ec07adfdf82c9d0d2f363bdf3cd0aebe9b489d5c8dd8bd8ddd69a3ddab187", func := "belfry/belfrylaw06.AmendLocates", spec := "amendLocates", unfollowed := true, recurses := true, apart := false, narrowed := true }
def AmendLocatesUptoSaid : Prop := amendLocatesUptoRow.holds Try.pinned (OpenSpec.upto amendLocatesSpec)

/-- 'belfrylaw06.AmendFar', WHERE WHAT IT READS IS OF BULK AT MOST 1048576: true; the input reads as it did. -/
def amendFarUptoRow : OpenClaim := { program := "ythhfccnhkadkcaa", sum := "f80ec07adfdf82c9d0d2f363bdf3cd0aebe9b489d5c8dd8bd8ddd69a3ddab187", func := "belfry/belfrylaw06.AmendFar", spec := "amendFar", unfollowed := true, recurses := true, apart := false, narrowed := true }
def AmendFarUptoSaid : Prop := amendFarUptoRow.holds Try.pinned (OpenSpec.upto amendFarSpec)

/-- 'belfrylaw06.AmendClean', WHERE WHAT IT READS IS OF BULK AT MOST 1048576: true; the input reads as it did. -/
def amendCleanUptoRow : OpenClaim := { program := "ythhfccnhkadkcaa", sum := "f80ec07adfdf82c9d0d2f363bdf3cd0aebe9b489d5c8dd8bd8ddd69a3ddab187", func := "belfry/belfrylaw06.AmendClean", spec := "amendClean", unfollowed := true, recurses := true, apart := false, narrowed := true }
def AmendCleanUptoSaid : Prop := amendCleanUptoRow.holds Try.pinned (OpenSpec.upto amendCleanSpec)

/-- 'belfrylaw20.CodeLoud', WHERE WHAT IT READS IS OF BULK AT MOST 1048576: true; the input reads as it did. -/
def codeLoudUptoRow : OpenClaim := { program := "ythhfccnhkadkcaa", sum := "f80ec07adfdf82c9d0d2f363bdf3cd0aebe9b489d5c8dd8bd8ddd69a3ddab187", func := "belfry/belfrylaw20.CodeLoud", spec := "codeLoud", unfollowed := true, recurses := true, apart := false, narrowed := true }
def CodeLoudUptoSaid : Prop := codeLoudUptoRow.holds Try.pinned (OpenSpec.upto codeLoudSpec)

/-- 'belfrylaw20.CodeNearest', WHERE WHAT IT READS IS OF BULK AT MOST 1048576: true; the input reads as it did. -/
def codeNearestUptoRow : OpenClaim := { program := "ythhfccnhkadkcaa", sum := "f80ec07adfdf82c9d0d2f363bdf3cd0aebe9b489d5c8dd8bd8ddd69a3ddab187", func := "belfry/belfrylaw20.CodeNearest", spec := "codeNearest", unfollowed := true, recurses := true, apart := false, narrowed := true }
def CodeNearestUptoSaid : Prop := codeNearestUptoRow.holds Try.pinned (OpenSpec.upto codeNearestSpec)

/-- 'belfrylaw20.CodeRight', WHERE WHAT IT READS IS OF BULK AT MOST 1048576: true; the input reads as it did. -/
def codeRightUptoRow : OpenClaim := { program := "ythhfccnhkadkcaa", sum := "f80ec07adfdf82c9d0d2f363bdf3cd0aebe9b489d5c8dd8bd8ddd69a3ddab187", func := "belfry/belfrylaw20.CodeRight", spec := "codeRight", inPlace := ["internal/abi.NoEscape", "internal/bytealg.MakeNoZero"], unfollowed := true, recurses := true, apart := false, narrowed := true }
def CodeRightUptoSaid : Prop := codeRightUptoRow.holds Try.pinned (OpenSpec.upto codeRightSpec)

end Rows
end Go.Proofs.Ythhfccnhkadkcaa
