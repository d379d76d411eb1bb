/-
  NARROWER THAN 'FOR EVERY INPUT', by the rows' own cells (each row's printed sentence says how): TagTells: laid · TagFree: laid · FindCarries: laid · FindChecked: laid · FindTwice: laid · FindSearches: laid · FindWaves: laid · TagWithin: laid · FindSamples: laid.
  DERIVED. THE GIVEN ROWS OF THIS SEAT. 9 by the template 'for every input the law returns true; each argument reads behind the call as it read before'; 0 by the template 'total and deterministic' (their statements: YteahjgigkbkcdaaDoorTotals.lean).
  GIVEN WITH THE SEED: the statements are not yours to turn. If you find one false, say at which input.
  Laid BY PROGRAM, IN A SANDBOX (cutbox-rows.mjs): the forced cells as the released guide's own fill.sh prints them over the translation ce3536f9f5c6e4c6… (all of the seat's roots in one cut). By AI agents, Wed Nov 11 2026. No macro, syntax, notation, axiom, sorry.
-/
import Derived.Test.YteahjgigkbkcdaaDoorChecked
import GoSem.Claim
import GoSem.ClaimJoined
import GoSem.ClaimMapViews
import Derived.JoinedTies
import Derived.KernelRfl
namespace Go.Proofs.YteahjgigkbkcdaaDoor
/- THE CELL 'sum', in the pinned program and in every row, IS THE sha256 OF THE DUMP (.gsa) THAT YteahjgigkbkcdaaDoorProg.lean LOADS. Nothing in Lean hashes anything: it is a label: what it is worth is what the hold of that sum in a sandbox is worth. -/
noncomputable def Tryd.pinned : Pinned := { name := "yteahjgigkbkcdaadoor", sum := "ce3536f9f5c6e4c6759bb88f6b61c13044c8ab9fc70a308321e6031706d22f2b", checked := Tryd.checked }
namespace Rows
def none {H : Type} : Left H := { results := [], args := [] }

/- WHAT THE LISTED PACKAGE-LEVEL VARIABLES READ AS WHEN THE CALL BEGINS. Each datum BY PROGRAM (the guide's laid-datum.mjs) off the statement by which the dump's own 'gosem.cut.vars' lays the variable. In a bare row this is a premise. The card (YteahjgigkbkcdaaDoorCards.lean) ties it to the program's text. -/
def laid_belfry_sip_signs {H : Type} : DataW H := .agg [.lit (.int .u64 8317987319222330741), .lit (.int .u64 7237128888997146477), .lit (.int .u64 7816392313619706465), .lit (.int .u64 8387220255154660723)]

/-- 'belfrylaw23.TagTells': WHATEVER THE INPUT: true; the input reads as it did. -/
def tagTellsSpec : ChangeSpec := { name := "tagTells", fn := fun _ => fun
  | [d1, d2, d3, d4, d5, d6] => { results := [.lit (.bool true)], args := [d1, d2, d3, d4, d5, d6] }
  | _ => none }
def tagTellsRow : OpenClaim := { program := "yteahjgigkbkcdaadoor", sum := "ce3536f9f5c6e4c6759bb88f6b61c13044c8ab9fc70a308321e6031706d22f2b", func := "belfry/belfrylaw23.TagTells", spec := "tagTells", unfollowed := true, recurses := true, named := ["belfry/sip.signs"], apart := false, laid := [("belfry/sip.signs", laid_belfry_sip_signs)] }
def TagTellsSaid : Prop := tagTellsRow.holds Tryd.pinned (OpenSpec.ofChange tagTellsSpec)

/-- ITS FALSE NEIGHBOUR: 'it returns false'. Refute it at one input. -/
def tagTellsWrong : ChangeSpec := { name := "tagTells", fn := fun _ => fun
  | [d1, d2, d3, d4, d5, d6] => { results := [.lit (.bool false)], args := [d1, d2, d3, d4, d5, d6] }
  | _ => none }
def TagTellsWrongFalsely : Prop := tagTellsRow.holds Tryd.pinned (OpenSpec.ofChange tagTellsWrong)

/-- 'belfrylaw23.TagFree': WHATEVER THE INPUT: true; the input reads as it did. -/
def tagFreeSpec : ChangeSpec := { name := "tagFree", fn := fun _ => fun
  | [d1, d2, d3, d4, d5, d6] => { results := [.lit (.bool true)], args := [d1, d2, d3, d4, d5, d6] }
  | _ => none }
def tagFreeRow : OpenClaim := { program := "yteahjgigkbkcdaadoor", sum := "ce3536f9f5c6e4c6759bb88f6b61c13044c8ab9fc70a308321e6031706d22f2b", func := "belfry/belfrylaw23.TagFree", spec := "tagFree", unfollowed := true, recurses := true, named := ["belfry/sip.signs"], apart := false, laid := [("belfry/sip.signs", laid_belfry_sip_signs)] }
def TagFreeSaid : Prop := tagFreeRow.holds Tryd.pinned (OpenSpec.ofChange tagFreeSpec)

/-- ITS FALSE NEIGHBOUR: 'it returns false'. Refute it at one input. -/
def tagFreeWrong : ChangeSpec := { name := "tagFree", fn := fun _ => fun
  | [d1, d2, d3, d4, d5, d6] => { results := [.lit (.bool false)], args := [d1, d2, d3, d4, d5, d6] }
  | _ => none }
def TagFreeWrongFalsely : Prop := tagFreeRow.holds Tryd.pinned (OpenSpec.ofChange tagFreeWrong)

/-- 'belfrylaw24.FindCarries': WHATEVER THE INPUT: true; the input reads as it did. -/
def findCarriesSpec : ChangeSpec := { name := "findCarries", fn := fun _ => fun
  | [d1, d2, d3, d4, d5] => { results := [.lit (.bool true)], args := [d1, d2, d3, d4, d5] }
  | _ => none }
def findCarriesRow : OpenClaim := { program := "yteahjgigkbkcdaadoor", sum := "ce3536f9f5c6e4c6759bb88f6b61c13044c8ab9fc70a308321e6031706d22f2b", func := "belfry/belfrylaw24.FindCarries", spec := "findCarries", unfollowed := true, recurses := true, named := ["belfry/sip.signs"], apart := false, laid := [("belfry/sip.signs", laid_belfry_sip_signs)] }
def FindCarriesSaid : Prop := findCarriesRow.holds Tryd.pinned (OpenSpec.ofChange findCarriesSpec)

/-- ITS FALSE NEIGHBOUR: 'it returns false'. Refute it at one input. -/
def findCarriesWrong : ChangeSpec := { name := "findCarries", fn := fun _ => fun
  | [d1, d2, d3, d4, d5] => { results := [.lit (.bool false)], args := [d1, d2, d3, d4, d5] }
  | _ => none }
def FindCarriesWrongFalsely : Prop := findCarriesRow.holds Tryd.pinned (OpenSpec.ofChange findCarriesWrong)

/-- 'belfrylaw24.FindChecked': WHATEVER THE INPUT: true; the input reads as it did. -/
def findCheckedSpec : ChangeSpec := { name := "findChecked", fn := fun _ => fun
  | [d1, d2] => { results := [.lit (.bool true)], args := [d1, d2] }
  | _ => none }
def findCheckedRow : OpenClaim := { program := "yteahjgigkbkcdaadoor", sum := "ce3536f9f5c6e4c6759bb88f6b61c13044c8ab9fc70a308321e6031706d22f2b", func := "belfry/belfrylaw24.FindChecked", spec := "findChecked", unfollowed := true, recurses := true, named := ["belfry/sip.signs"], apart := false, laid := [("belfry/sip.signs", laid_belfry_sip_signs)] }
def FindCheckedSaid : Prop := findCheckedRow.holds Tryd.pinned (OpenSpec.ofChange findCheckedSpec)

/-- ITS FALSE NEIGHBOUR: 'it returns false'. Refute it at one input. -/
def findCheckedWrong : ChangeSpec := { name := "findChecked", fn := fun _ => fun
  | [d1, d2] => { results := [.lit (.bool false)], args := [d1, d2] }
  | _ => none }
def FindCheckedWrongFalsely : Prop := findCheckedRow.holds Tryd.pinned (OpenSpec.ofChange findCheckedWrong)

/-- 'belfrylaw24.FindTwice': WHATEVER THE INPUT: true; the input reads as it did. -/
def findTwiceSpec : ChangeSpec := { name := "findTwice", fn := fun _ => fun
  | [d1, d2, d3] => { results := [.lit (.bool true)], args := [d1, d2, d3] }
  | _ => none }
def findTwiceRow : OpenClaim := { program := "yteahjgigkbkcdaadoor", sum := "ce3536f9f5c6e4c6759bb88f6b61c13044c8ab9fc70a308321e6031706d22f2b", func := "belfry/belfrylaw24.FindTwice", spec := "findTwice", unfollowed := true, recurses := true, named := ["belfry/sip.signs"], apart := false, laid := [("belfry/sip.signs", laid_belfry_sip_signs)] }
def FindTwiceSaid : Prop := findTwiceRow.holds Tryd.pinned (OpenSpec.ofChange findTwiceSpec)

/-- ITS FALSE NEIGHBOUR: 'it returns false'. Refute it at one input. -/
def findTwiceWrong : ChangeSpec := { name := "findTwice", fn := fun _ => fun
  | [d1, d2, d3] => { results := [.lit (.bool false)], args := [d1, d2, d3] }
  | _ => none }
def FindTwiceWrongFalsely : Prop := findTwiceRow.holds Tryd.pinned (OpenSpec.ofChange findTwiceWrong)

/-- 'belfrylaw24.FindSearches': WHATEVER THE INPUT: true; the input reads as it did. -/
def findSearchesSpec : ChangeSpec := { name := "findSearches", fn := fun _ => fun
  | [d1, d2, d3, d4] => { results := [.lit (.bool true)], args := [d1, d2, d3, d4] }
  | _ => none }
def findSearchesRow : OpenClaim := { program := "yteahjgigkbkcdaadoor", sum := "ce3536f9f5c6e4c6759bb88f6b61c13044c8ab9fc70a308321e6031706d22f2b", func := "belfry/belfrylaw24.FindSearches", spec := "findSearches", unfollowed := true, recurses := true, named := ["belfry/sip.signs"], apart := false, laid := [("belfry/sip.signs", laid_belfry_sip_signs)] }
def FindSearchesSaid : Prop := findSearchesRow.holds Tryd.pinned (OpenSpec.ofChange findSearchesSpec)

/-- ITS FALSE NEIGHBOUR: 'it returns false'. Refute it at one input. -/
def findSearchesWrong : ChangeSpec := { name := "findSearches", fn := fun _ => fun
  | [d1, d2, d3, d4] => { results := [.lit (.bool false)], args := [d1, d2, d3, d4] }
  | _ => none }
def FindSearchesWrongFalsely : Prop := findSearchesRow.holds Tryd.pinned (OpenSpec.ofChange findSearchesWrong)

/-- 'belfrylaw24.FindWaves': WHATEVER THE INPUT: true; the input reads as it did. -/
def findWavesSpec : ChangeSpec := { name := "findWaves", fn := fun _ => fun
  | [d1, d2, d3] => { results := [.lit (.bool true)], args := [d1, d2, d3] }
  | _ => none }
def findWavesRow : OpenClaim := { program := "yteahjgigkbkcdaadoor", sum := "ce3536f9f5c6e4c6759bb88f6b61c13044c8ab9fc70a308321e6031706d22f2b", func := "belfry/belfrylaw24.FindWaves", spec := "findWaves", unfollowed := true, recurses := true, named := ["belfry/sip.signs"], apart := false, laid := [("belfry/sip.signs", laid_belfry_sip_signs)] }
def FindWavesSaid : Prop := findWavesRow.holds Tryd.pinned (OpenSpec.ofChange findWavesSpec)

/-- ITS FALSE NEIGHBOUR: 'it returns false'. Refute it at one input. -/
def findWavesWrong : ChangeSpec := { name := "findWaves", fn := fun _ => fun
  | [d1, d2, d3] => { results := [.lit (.bool false)], args := [d1, d2, d3] }
  | _ => none }
def FindWavesWrongFalsely : Prop := findWavesRow.holds Tryd.pinned (OpenSpec.ofChange findWavesWrong)

/-- 'belfrylaw23.TagWithin': WHATEVER THE INPUT: true; the input reads as it did. -/
def tagWithinSpec : ChangeSpec := { name := "tagWithin", fn := fun _ => fun
  | [d1, d2, d3, d4, d5, d6] => { results := [.lit (.bool true)], args := [d1, d2, d3, d4, d5, d6] }
  | _ => none }
def tagWithinRow : OpenClaim := { program := "yteahjgigkbkcdaadoor", sum := "ce3536f9f5c6e4c6759bb88f6b61c13044c8ab9fc70a308321e6031706d22f2b", func := "belfry/belfrylaw23.TagWithin", spec := "tagWithin", unfollowed := true, recurses := true, named := ["belfry/sip.signs"], apart := false, laid := [("belfry/sip.signs", laid_belfry_sip_signs)] }
def TagWithinSaid : Prop := tagWithinRow.holds Tryd.pinned (OpenSpec.ofChange tagWithinSpec)

/-- ITS FALSE NEIGHBOUR: 'it returns false'. Refute it at one input. -/
def tagWithinWrong : ChangeSpec := { name := "tagWithin", fn := fun _ => fun
  | [d1, d2, d3, d4, d5, d6] => { results := [.lit (.bool false)], args := [d1, d2, d3, d4, d5, d6] }
  | _ => none }
def TagWithinWrongFalsely : Prop := tagWithinRow.holds Tryd.pinned (OpenSpec.ofChange tagWithinWrong)

/-- 'belfrylaw24.FindSamples': WHATEVER THE INPUT: true; the input reads as it did. -/
def findSamplesSpec : ChangeSpec := { name := "findSamples", fn := fun _ => fun
  | [d1, d2, d3] => { results := [.lit (.bool true)], args := [d1, d2, d3] }
  | _ => none }
def findSamplesRow : OpenClaim := { program := "yteahjgigkbkcdaadoor", sum := "ce3536f9f5c6e4c6759bb88f6b61c13044c8ab9fc70a308321e6031706d22f2b", func := "belfry/belfrylaw24.FindSamples", spec := "findSamples", unfollowed := true, recurses := true, named := ["belfry/sip.signs"], apart := false, laid := [("belfry/sip.signs", laid_belfry_sip_signs)] }
def FindSamplesSaid : Prop := findSamplesRow.holds Tryd.pinned (OpenSpec.ofChange findSamplesSpec)

/-- ITS FALSE NEIGHBOUR: 'it returns false'. Refute it at one input. -/
def findSamplesWrong : ChangeSpec := { name := "findSamples", fn := fun _ => fun
  | [d1, d2, d3] => { results := [.lit (.bool false)], args := [d1, d2, d3] }
  | _ => none }
def FindSamplesWrongFalsely : Prop := findSamplesRow.holds Tryd.pinned (OpenSpec.ofChange findSamplesWrong)

/- THE SECOND FORM. 'bulk': how many values and letters a reading holds, each counted each time it is reached (what is shared counts as often as it is met; a slice's spare places count too). A statement '..UptoSaid' is the law's where the arguments, and the package variables that the reading takes, are together of bulk at most 1048576: NARROWER than '..Said'. Prove '..Said' where nothing that the law and all that it calls make is longer than what came in: it says more and counts as full. Else prove '..UptoSaid'. A law counts once. -/
mutual
def uptoBulk {H : Type} : DataW H → Nat
  | .lit (.string bytes) => bytes.length + 1
  | .lit _ => 1
  | .nil => 1
  | .ptr d => uptoBulk d + 1
  | .slice elems spare => uptoBulkAll elems + uptoBulkAll spare + 1
  | .agg parts => uptoBulkAll parts + 1
  | .iface _ d => uptoBulk d + 1
  | .map entries => uptoBulkEntries entries + 1
  | .held _ => 1
def uptoBulkAll {H : Type} : List (DataW H) → Nat
  | [] => 0
  | d :: r => uptoBulk d + uptoBulkAll r
def uptoBulkEntries {H : Type} : List (Lit × DataW H) → Nat
  | [] => 0
  | x :: r => uptoBulkEntry x + uptoBulkEntries r
def uptoBulkEntry {H : Type} : Lit × DataW H → Nat
  | (.string bytes, d) => bytes.length + uptoBulk d + 1
  | (_, d) => uptoBulk d + 1
 end
def uptoSmall : (H : Type) → List (DataW H) → Bool := fun _ ds => decide (uptoBulkAll ds ≤ 1048576)
def OpenSpec.upto (s : _root_.Go.ChangeSpec) : _root_.Go.OpenSpec := { _root_.Go.OpenSpec.ofChange s with cond := some uptoSmall }

/-- 'belfrylaw23.TagTells', WHERE WHAT IT READS IS OF BULK AT MOST 1048576: true; the input reads as it did. -/
def tagTellsUptoRow : OpenClaim := { program := "yteahjgigkbkcdaadoor", sum := "ce3536f9f5c6e4c6759bb88f6b61c13044c8ab9fc70a308321e6031706d22f2b", func := "belfry/belfrylaw23.TagTells", spec := "tagTells", unfollowed := true, recurses := true, named := ["belfry/sip.signs"], apart := false, laid := [("belfry/sip.signs", laid_belfry_sip_signs)], narrowed := true }
def TagTellsUptoSaid : Prop := tagTellsUptoRow.holds Tryd.pinned (OpenSpec.upto tagTellsSpec)

/-- 'belfrylaw23.TagFree', WHERE WHAT IT READS IS OF BULK AT MOST 1048576: true; the input reads as it did. -/
def tagFreeUptoRow : OpenClaim := { program := "yteahjgigkbkcdaadoor", sum := "ce3536f9f5c6e4c6759bb88f6b61c13044c8ab9fc70a308321e6031706d22f2b", func := "belfry/belfrylaw23.TagFree", spec := "tagFree", unfollowed := true, recurses := true, named := ["belfry/sip.signs"], apart := false, laid := [("belfry/sip.signs", laid_belfry_sip_signs)], narrowed := true }
def TagFreeUptoSaid : Prop := tagFreeUptoRow.holds Tryd.pinned (OpenSpec.upto tagFreeSpec)

/-- 'belfrylaw24.FindCarries', WHERE WHAT IT READS IS OF BULK AT MOST 1048576: true; the input reads as it did. -/
def findCarriesUptoRow : OpenClaim := { program := "yteahjgigkbkcdaadoor", sum := "ce3536f9f5c6e4c6759bb88f6b61c13044c8ab9fc70a308321e6031706d22f2b", func := "belfry/belfrylaw24.FindCarries", spec := "findCarries", unfollowed := true, recurses := true, named := ["belfry/sip.signs"], apart := false, laid := [("belfry/sip.signs", laid_belfry_sip_signs)], narrowed := true }
def FindCarriesUptoSaid : Prop := findCarriesUptoRow.holds Tryd.pinned (OpenSpec.upto findCarriesSpec)

/-- 'belfrylaw24.FindChecked', WHERE WHAT IT READS IS OF BULK AT MOST 1048576: true; the input reads as it did. -/
def findCheckedUptoRow : OpenClaim := { program := "yteahjgigkbkcdaadoor", sum := "ce3536f9f5c6e4c6759bb88f6b61c13044c8ab9fc70a308321e6031706d22f2b", func := "belfry/belfrylaw24.FindChecked", spec := "findChecked", unfollowed := true, recurses := true, named := ["belfry/sip.signs"], apart := false, laid := [("belfry/sip.signs", laid_belfry_sip_signs)], narrowed := true }
def FindCheckedUptoSaid : Prop := findCheckedUptoRow.holds Tryd.pinned (OpenSpec.upto findCheckedSpec)

/-- 'belfrylaw24.FindTwice', WHERE WHAT IT READS IS OF BULK AT MOST 1048576: true; the input reads as it did. -/
def findTwiceUptoRow : OpenClaim := { program := "yteahjgigkbkcdaadoor", sum := "ce3536f9f5c6e4c6759bb88f6b61c13044c8ab9fc70a308321e6031706d22f2b", func := "belfry/belfrylaw24.FindTwice", spec := "findTwice", unfollowed := true, recurses := true, named := ["belfry/sip.signs"], apart := false, laid := [("belfry/sip.signs", laid_belfry_sip_signs)], narrowed := true }
def FindTwiceUptoSaid : Prop := findTwiceUptoRow.holds Tryd.pinned (OpenSpec.upto findTwiceSpec)

/-- 'belfrylaw24.FindSearches', WHERE WHAT IT READS IS OF BULK AT MOST 1048576: true; the input reads as it did. -/
def findSearchesUptoRow : OpenClaim := { program := "yteahjgigkbkcdaadoor", sum := "ce3536f9f5c6e4c6759bb88f6b61c13044c8ab9fc70a308321e6031706d22f2b", func := "belfry/belfrylaw24.FindSearches", spec := "findSearches", unfollowed := true, recurses := true, named := ["belfry/sip.signs"], apart := false, laid := [("belfry/sip.signs", laid_belfry_sip_signs)], narrowed := true }
def FindSearchesUptoSaid : Prop := findSearchesUptoRow.holds Tryd.pinned (OpenSpec.upto findSearchesSpec)

/-- 'belfrylaw24.FindWaves', WHERE WHAT IT READS IS OF BULK AT MOST 1048576: true; the input reads as it did. -/
def findWavesUptoRow : OpenClaim := { program := "yteahjgigkbkcdaadoor", sum := "ce3536f9f5c6e4c6759bb88f6b61c13044c8ab9fc70a308321e6031706d22f2b", func := "belfry/belfrylaw24.FindWaves", spec := "findWaves", unfollowed := true, recurses := true, named := ["belfry/sip.signs"], apart := false, laid := [("belfry/sip.signs", laid_belfry_sip_signs)], narrowed := true }
def FindWavesUptoSaid : Prop := findWavesUptoRow.holds Tryd.pinned (OpenSpec.upto findWavesSpec)

/-- 'belfrylaw23.TagWithin', WHERE WHAT IT READS IS OF BULK AT MOST 1048576: true; the input reads as it did. -/
def tagWithinUptoRow : OpenClaim := { program := "yteahjgigkbkcdaadoor", sum := "ce3536f9f5c6e4c6759bb88f6b61c13044c8ab9fc70a308321e6031706d22f2b", func := "belfry/belfrylaw23.TagWithin", spec := "tagWithin", unfollowed := true, recurses := true, named := ["belfry/sip.signs"], apart := false, laid := [("belfry/sip.signs", laid_belfry_sip_signs)], narrowed := true }
def TagWithinUptoSaid : Prop := tagWithinUptoRow.holds Tryd.pinned (OpenSpec.upto tagWithinSpec)

/-- 'belfrylaw24.FindSamples', WHERE WHAT IT READS IS OF BULK AT MOST 1048576: true; the input reads as it did. -/
def findSamplesUptoRow : OpenClaim := { program := "yteahjgigkbkcdaadoor", sum := "ce3536f9f5c6e4c6759bb88f6b61c13044c8ab9fc70a308321e6031706d22f2b", func := "belfry/belfrylaw24.FindSamples", spec := "findSamples", unfollowed := true, recurses := true, named := ["belfry/sip.signs"], apart := false, laid := [("belfry/sip.signs", laid_belfry_sip_signs)], narrowed := true }
def FindSamplesUptoSaid : Prop := findSamplesUptoRow.holds Tryd.pinned (OpenSpec.upto findSamplesSpec)

end Rows
end Go.Proofs.YteahjgigkbkcdaaDoor
