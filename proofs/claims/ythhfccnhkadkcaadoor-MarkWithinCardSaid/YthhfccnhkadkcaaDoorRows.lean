/-
  NARROWER THAN 'FOR EVERY INPUT', by the rows' own cells (each row's printed sentence says how): MarkPlays: laid · MarkFew: laid · MarkAgain: laid · MarkOpposed: laid · MarkLeast: laid · LoadTakes: laid · LoadChecks: laid · LoadPlays: laid · LoadDecides: laid · LoadKeys: laid · MarkWithin: laid.
  DERIVED. THE GIVEN ROWS OF THIS SEAT. 11 by the template 'for every input the law returns true; each argument reads behind the call as it read before'; 0 by the template 'total and deterministic' (their statements: YthhfccnhkadkcaaDoorTotals.lean).
  GIVEN WITH THE SEED: the statements are not yours to turn. If you find one false, say at which input.
  Laid BY PROGRAM, IN A SANDBOX (cutbox-rows.mjs): the forced cells as the released guide's own fill.sh prints them over the translation ee26bbaa86c432a9… (all of the seat's roots in one cut). By AI agents, Wed Nov 11 2026. No macro, syntax, notation, axiom, sorry.
-/
import Derived.Test.YthhfccnhkadkcaaDoorChecked
import GoSem.Claim
import GoSem.ClaimJoined
import GoSem.ClaimMapViews
import Derived.JoinedTies
import Derived.KernelRfl
namespace Go.Proofs.YthhfccnhkadkcaaDoor
/- THE CELL 'sum', in the pinned program and in every row, IS THE sha256 OF THE DUMP (.gsa) THAT YthhfccnhkadkcaaDoorProg.lean LOADS. Nothing in Lean hashes anything: it is a label: what it is worth is what the hold of that sum in a sandbox is worth. -/
noncomputable def Tryd.pinned : Pinned := { name := "ythhfccnhkadkcaadoor", sum := "ee26bbaa86c432a94f037bb183a94b5cd0fc95579ba2eaa2db535e1f56492f5d", checked := Tryd.checked }
namespace Rows
def none {H : Type} : Left H := { results := [], args := [] }

/- WHAT THE LISTED PACKAGE-LEVEL VARIABLES READ AS WHEN THE CALL BEGINS. Each datum BY PROGRAM (the guide's laid-datum.mjs) off the statement by which the dump's own 'gosem.cut.vars' lays the variable. In a bare row this is a premise. The card (YthhfccnhkadkcaaDoorCards.lean) ties it to the program's text. -/
def laid_belfry_sip_signs {H : Type} : DataW H := .agg [.lit (.int .u64 8317987319222330741), .lit (.int .u64 7237128888997146477), .lit (.int .u64 7816392313619706465), .lit (.int .u64 8387220255154660723)]

/-- 'belfrylaw22.MarkPlays': WHATEVER THE INPUT: true; the input reads as it did. -/
def markPlaysSpec : ChangeSpec := { name := "markPlays", fn := fun _ => fun
  | [d1, d2, d3, d4] => { results := [.lit (.bool true)], args := [d1, d2, d3, d4] }
  | _ => none }
def markPlaysRow : OpenClaim := { program := "ythhfccnhkadkcaadoor", sum := "ee26bbaa86c432a94f037bb183a94b5cd0fc95579ba2eaa2db535e1f56492f5d", func := "belfry/belfrylaw22.MarkPlays", spec := "markPlays", unfollowed := true, recurses := true, named := ["belfry/sip.signs"], apart := false, laid := [("belfry/sip.signs", laid_belfry_sip_signs)] }
def MarkPlaysSaid : Prop := markPlaysRow.holds Tryd.pinned (OpenSpec.ofChange markPlaysSpec)

/-- ITS FALSE NEIGHBOUR: 'it returns false'. Refute it at one input. -/
def markPlaysWrong : ChangeSpec := { name := "markPlays", fn := fun _ => fun
  | [d1, d2, d3, d4] => { results := [.lit (.bool false)], args := [d1, d2, d3, d4] }
  | _ => none }
def MarkPlaysWrongFalsely : Prop := markPlaysRow.holds Tryd.pinned (OpenSpec.ofChange markPlaysWrong)

/-- 'belfrylaw22.MarkFew': WHATEVER THE INPUT: true; the input reads as it did. -/
def markFewSpec : ChangeSpec := { name := "markFew", fn := fun _ => fun
  | [d1, d2, d3, d4, d5] => { results := [.lit (.bool true)], args := [d1, d2, d3, d4, d5] }
  | _ => none }
def markFewRow : OpenClaim := { program := "ythhfccnhkadkcaadoor", sum := "ee26bbaa86c432a94f037bb183a94b5cd0fc95579ba2eaa2db535e1f56492f5d", func := "belfry/belfrylaw22.MarkFew", spec := "markFew", unfollowed := true, recurses := true, named := ["belfry/sip.signs"], apart := false, laid := [("belfry/sip.signs", laid_belfry_sip_signs)] }
def MarkFewSaid : Prop := markFewRow.holds Tryd.pinned (OpenSpec.ofChange markFewSpec)

/-- ITS FALSE NEIGHBOUR: 'it returns false'. Refute it at one input. -/
def markFewWrong : ChangeSpec := { name := "markFew", fn := fun _ => fun
  | [d1, d2, d3, d4, d5] => { results := [.lit (.bool false)], args := [d1, d2, d3, d4, d5] }
  | _ => none }
def MarkFewWrongFalsely : Prop := markFewRow.holds Tryd.pinned (OpenSpec.ofChange markFewWrong)

/-- 'belfrylaw22.MarkAgain': WHATEVER THE INPUT: true; the input reads as it did. -/
def markAgainSpec : ChangeSpec := { name := "markAgain", fn := fun _ => fun
  | [d1, d2, d3, d4, d5, d6] => { results := [.lit (.bool true)], args := [d1, d2, d3, d4, d5, d6] }
  | _ => none }
def markAgainRow : OpenClaim := { program := "ythhfccnhkadkcaadoor", sum := "ee26bbaa86c432a94f037bb183a94b5cd0fc95579ba2eaa2db535e1f56492f5d", func := "belfry/belfrylaw22.MarkAgain", spec := "markAgain", unfollowed := true, recurses := true, named := ["belfry/sip.signs"], apart := false, laid := [("belfry/sip.signs", laid_belfry_sip_signs)] }
def MarkAgainSaid : Prop := markAgainRow.holds Tryd.pinned (OpenSpec.ofChange markAgainSpec)

/-- ITS FALSE NEIGHBOUR: 'it returns false'. Refute it at one input. -/
def markAgainWrong : ChangeSpec := { name := "markAgain", fn := fun _ => fun
  | [d1, d2, d3, d4, d5, d6] => { results := [.lit (.bool false)], args := [d1, d2, d3, d4, d5, d6] }
  | _ => none }
def MarkAgainWrongFalsely : Prop := markAgainRow.holds Tryd.pinned (OpenSpec.ofChange markAgainWrong)

/-- 'belfrylaw22.MarkOpposed': WHATEVER THE INPUT: true; the input reads as it did. -/
def markOpposedSpec : ChangeSpec := { name := "markOpposed", fn := fun _ => fun
  | [d1, d2, d3, d4, d5, d6] => { results := [.lit (.bool true)], args := [d1, d2, d3, d4, d5, d6] }
  | _ => none }
def markOpposedRow : OpenClaim := { program := "ythhfccnhkadkcaadoor", sum := "ee26bbaa86c432a94f037bb183a94b5cd0fc95579ba2eaa2db535e1f56492f5d", func := "belfry/belfrylaw22.MarkOpposed", spec := "markOpposed", unfollowed := true, recurses := true, named := ["belfry/sip.signs"], apart := false, laid := [("belfry/sip.signs", laid_belfry_sip_signs)] }
def MarkOpposedSaid : Prop := markOpposedRow.holds Tryd.pinned (OpenSpec.ofChange markOpposedSpec)

/-- ITS FALSE NEIGHBOUR: 'it returns false'. Refute it at one input. -/
def markOpposedWrong : ChangeSpec := { name := "markOpposed", fn := fun _ => fun
  | [d1, d2, d3, d4, d5, d6] => { results := [.lit (.bool false)], args := [d1, d2, d3, d4, d5, d6] }
  | _ => none }
def MarkOpposedWrongFalsely : Prop := markOpposedRow.holds Tryd.pinned (OpenSpec.ofChange markOpposedWrong)

/-- 'belfrylaw22.MarkLeast': WHATEVER THE INPUT: true; the input reads as it did. -/
def markLeastSpec : ChangeSpec := { name := "markLeast", fn := fun _ => fun
  | [d1, d2, d3, d4, d5, d6, d7] => { results := [.lit (.bool true)], args := [d1, d2, d3, d4, d5, d6, d7] }
  | _ => none }
def markLeastRow : OpenClaim := { program := "ythhfccnhkadkcaadoor", sum := "ee26bbaa86c432a94f037bb183a94b5cd0fc95579ba2eaa2db535e1f56492f5d", func := "belfry/belfrylaw22.MarkLeast", spec := "markLeast", unfollowed := true, recurses := true, named := ["belfry/sip.signs"], apart := false, laid := [("belfry/sip.signs", laid_belfry_sip_signs)] }
def MarkLeastSaid : Prop := markLeastRow.holds Tryd.pinned (OpenSpec.ofChange markLeastSpec)

/-- ITS FALSE NEIGHBOUR: 'it returns false'. Refute it at one input. -/
def markLeastWrong : ChangeSpec := { name := "markLeast", fn := fun _ => fun
  | [d1, d2, d3, d4, d5, d6, d7] => { results := [.lit (.bool false)], args := [d1, d2, d3, d4, d5, d6, d7] }
  | _ => none }
def MarkLeastWrongFalsely : Prop := markLeastRow.holds Tryd.pinned (OpenSpec.ofChange markLeastWrong)

/-- 'belfrylaw07.LoadTakes': WHATEVER THE INPUT: true; the input reads as it did. -/
def loadTakesSpec : ChangeSpec := { name := "loadTakes", fn := fun _ => fun
  | [d1, d2, d3, d4, d5] => { results := [.lit (.bool true)], args := [d1, d2, d3, d4, d5] }
  | _ => none }
def loadTakesRow : OpenClaim := { program := "ythhfccnhkadkcaadoor", sum := "ee26bbaa86c432a94f037bb183a94b5cd0fc95579ba2eaa2db535e1f56492f5d", func := "belfry/belfrylaw07.LoadTakes", spec := "loadTakes", unfollowed := true, recurses := true, named := ["belfry/sip.signs"], apart := false, laid := [("belfry/sip.signs", laid_belfry_sip_signs)] }
def LoadTakesSaid : Prop := loadTakesRow.holds Tryd.pinned (OpenSpec.ofChange loadTakesSpec)

/-- ITS FALSE NEIGHBOUR: 'it returns false'. Refute it at one input. -/
def loadTakesWrong : ChangeSpec := { name := "loadTakes", fn := fun _ => fun
  | [d1, d2, d3, d4, d5] => { results := [.lit (.bool false)], args := [d1, d2, d3, d4, d5] }
  | _ => none }
def LoadTakesWrongFalsely : Prop := loadTakesRow.holds Tryd.pinned (OpenSpec.ofChange loadTakesWrong)

/-- 'belfrylaw07.LoadChecks': WHATEVER THE INPUT: true; the input reads as it did. -/
def loadChecksSpec : ChangeSpec := { name := "loadChecks", fn := fun _ => fun
  | [d1, d2] => { results := [.lit (.bool true)], args := [d1, d2] }
  | _ => none }
def loadChecksRow : OpenClaim := { program := "ythhfccnhkadkcaadoor", sum := "ee26bbaa86c432a94f037bb183a94b5cd0fc95579ba2eaa2db535e1f56492f5d", func := "belfry/belfrylaw07.LoadChecks", spec := "loadChecks", unfollowed := true, recurses := true, named := ["belfry/sip.signs"], apart := false, laid := [("belfry/sip.signs", laid_belfry_sip_signs)] }
def LoadChecksSaid : Prop := loadChecksRow.holds Tryd.pinned (OpenSpec.ofChange loadChecksSpec)

/-- ITS FALSE NEIGHBOUR: 'it returns false'. Refute it at one input. -/
def loadChecksWrong : ChangeSpec := { name := "loadChecks", fn := fun _ => fun
  | [d1, d2] => { results := [.lit (.bool false)], args := [d1, d2] }
  | _ => none }
def LoadChecksWrongFalsely : Prop := loadChecksRow.holds Tryd.pinned (OpenSpec.ofChange loadChecksWrong)

/-- 'belfrylaw07.LoadPlays': WHATEVER THE INPUT: true; the input reads as it did. -/
def loadPlaysSpec : ChangeSpec := { name := "loadPlays", fn := fun _ => fun
  | [d1, d2] => { results := [.lit (.bool true)], args := [d1, d2] }
  | _ => none }
def loadPlaysRow : OpenClaim := { program := "ythhfccnhkadkcaadoor", sum := "ee26bbaa86c432a94f037bb183a94b5cd0fc95579ba2eaa2db535e1f56492f5d", func := "belfry/belfrylaw07.LoadPlays", spec := "loadPlays", unfollowed := true, recurses := true, named := ["belfry/sip.signs"], apart := false, laid := [("belfry/sip.signs", laid_belfry_sip_signs)] }
def LoadPlaysSaid : Prop := loadPlaysRow.holds Tryd.pinned (OpenSpec.ofChange loadPlaysSpec)

/-- ITS FALSE NEIGHBOUR: 'it returns false'. Refute it at one input. -/
def loadPlaysWrong : ChangeSpec := { name := "loadPlays", fn := fun _ => fun
  | [d1, d2] => { results := [.lit (.bool false)], args := [d1, d2] }
  | _ => none }
def LoadPlaysWrongFalsely : Prop := loadPlaysRow.holds Tryd.pinned (OpenSpec.ofChange loadPlaysWrong)

/-- 'belfrylaw07.LoadDecides': WHATEVER THE INPUT: true; the input reads as it did. -/
def loadDecidesSpec : ChangeSpec := { name := "loadDecides", fn := fun _ => fun
  | [d1, d2] => { results := [.lit (.bool true)], args := [d1, d2] }
  | _ => none }
def loadDecidesRow : OpenClaim := { program := "ythhfccnhkadkcaadoor", sum := "ee26bbaa86c432a94f037bb183a94b5cd0fc95579ba2eaa2db535e1f56492f5d", func := "belfry/belfrylaw07.LoadDecides", spec := "loadDecides", unfollowed := true, recurses := true, named := ["belfry/sip.signs"], apart := false, laid := [("belfry/sip.signs", laid_belfry_sip_signs)] }
def LoadDecidesSaid : Prop := loadDecidesRow.holds Tryd.pinned (OpenSpec.ofChange loadDecidesSpec)

/-- ITS FALSE NEIGHBOUR: 'it returns false'. Refute it at one input. -/
def loadDecidesWrong : ChangeSpec := { name := "loadDecides", fn := fun _ => fun
  | [d1, d2] => { results := [.lit (.bool false)], args := [d1, d2] }
  | _ => none }
def LoadDecidesWrongFalsely : Prop := loadDecidesRow.holds Tryd.pinned (OpenSpec.ofChange loadDecidesWrong)

/-- 'belfrylaw07.LoadKeys': WHATEVER THE INPUT: true; the input reads as it did. -/
def loadKeysSpec : ChangeSpec := { name := "loadKeys", fn := fun _ => fun
  | [d1, d2, d3] => { results := [.lit (.bool true)], args := [d1, d2, d3] }
  | _ => none }
def loadKeysRow : OpenClaim := { program := "ythhfccnhkadkcaadoor", sum := "ee26bbaa86c432a94f037bb183a94b5cd0fc95579ba2eaa2db535e1f56492f5d", func := "belfry/belfrylaw07.LoadKeys", spec := "loadKeys", unfollowed := true, recurses := true, named := ["belfry/sip.signs"], apart := false, laid := [("belfry/sip.signs", laid_belfry_sip_signs)] }
def LoadKeysSaid : Prop := loadKeysRow.holds Tryd.pinned (OpenSpec.ofChange loadKeysSpec)

/-- ITS FALSE NEIGHBOUR: 'it returns false'. Refute it at one input. -/
def loadKeysWrong : ChangeSpec := { name := "loadKeys", fn := fun _ => fun
  | [d1, d2, d3] => { results := [.lit (.bool false)], args := [d1, d2, d3] }
  | _ => none }
def LoadKeysWrongFalsely : Prop := loadKeysRow.holds Tryd.pinned (OpenSpec.ofChange loadKeysWrong)

/-- 'belfrylaw22.MarkWithin': WHATEVER THE INPUT: true; the input reads as it did. -/
def markWithinSpec : ChangeSpec := { name := "markWithin", fn := fun _ => fun
  | [d1, d2, d3, d4, d5, d6] => { results := [.lit (.bool true)], args := [d1, d2, d3, d4, d5, d6] }
  | _ => none }
def markWithinRow : OpenClaim := { program := "ythhfccnhkadkcaadoor", sum := "ee26bbaa86c432a94f037bb183a94b5cd0fc95579ba2eaa2db535e1f56492f5d", func := "belfry/belfrylaw22.MarkWithin", spec := "markWithin", unfollowed := true, recurses := true, named := ["belfry/sip.signs"], apart := false, laid := [("belfry/sip.signs", laid_belfry_sip_signs)] }
def MarkWithinSaid : Prop := markWithinRow.holds Tryd.pinned (OpenSpec.ofChange markWithinSpec)

/-- ITS FALSE NEIGHBOUR: 'it returns false'. Refute it at one input. -/
def markWithinWrong : ChangeSpec := { name := "markWithin", fn := fun _ => fun
  | [d1, d2, d3, d4, d5, d6] => { results := [.lit (.bool false)], args := [d1, d2, d3, d4, d5, d6] }
  | _ => none }
def MarkWithinWrongFalsely : Prop := markWithinRow.holds Tryd.pinned (OpenSpec.ofChange markWithinWrong)

/- THE SECOND FORM. 'bulk': how many values and letters a reading holds, each counted each time it is reached (what is shared counts as often as it is met; a slice's spare places count too). A statement '..UptoSaid' is the law's where the arguments, and the package variables that the reading takes, are together of bulk at most 1048576: NARROWER than '..Said'. Prove '..Said' where nothing that the law and all that it calls make is longer than what came in: it says more and counts as full. Else prove '..UptoSaid'. A law counts once. -/
mutual
def uptoBulk {H : Type} : DataW H → Nat
  | .lit (.string bytes) => bytes.length + 1
  | .lit _ => 1
  | .nil => 1
  | .ptr d => uptoBulk d + 1
  | .slice elems spare => uptoBulkAll elems + uptoBulkAll spare + 1
  | .agg parts => uptoBulkAll parts + 1
  | .iface _ d => uptoBulk d + 1
  | .map entries => uptoBulkEntries entries + 1
  | .held _ => 1
def uptoBulkAll {H : Type} : List (DataW H) → Nat
  | [] => 0
  | d :: r => uptoBulk d + uptoBulkAll r
def uptoBulkEntries {H : Type} : List (Lit × DataW H) → Nat
  | [] => 0
  | x :: r => uptoBulkEntry x + uptoBulkEntries r
def uptoBulkEntry {H : Type} : Lit × DataW H → Nat
  | (.string bytes, d) => bytes.length + uptoBulk d + 1
  | (_, d) => uptoBulk d + 1
 end
def uptoSmall : (H : Type) → List (DataW H) → Bool := fun _ ds => decide (uptoBulkAll ds ≤ 1048576)
def OpenSpec.upto (s : _root_.Go.ChangeSpec) : _root_.Go.OpenSpec := { _root_.Go.OpenSpec.ofChange s with cond := some uptoSmall }

/-- 'belfrylaw22.MarkPlays', WHERE WHAT IT READS IS OF BULK AT MOST 1048576: true; the input reads as it did. -/
def markPlaysUptoRow : OpenClaim := { program := "ythhfccnhkadkcaadoor", sum := "ee26bbaa86c432a94f037bb183a94b5cd0fc95579ba2eaa2db535e1f56492f5d", func := "belfry/belfrylaw22.MarkPlays", spec := "markPlays", unfollowed := true, recurses := true, named := ["belfry/sip.signs"], apart := false, laid := [("belfry/sip.signs", laid_belfry_sip_signs)], narrowed := true }
def MarkPlaysUptoSaid : Prop := markPlaysUptoRow.holds Tryd.pinned (OpenSpec.upto markPlaysSpec)

/-- 'belfrylaw22.MarkFew', WHERE WHAT IT READS IS OF BULK AT MOST 1048576: true; the input reads as it did. -/
def markFewUptoRow : OpenClaim := { program := "ythhfccnhkadkcaadoor", sum := "ee26bbaa86c432a94f037bb183a94b5cd0fc95579ba2eaa2db535e1f56492f5d", func := "belfry/belfrylaw22.MarkFew", spec := "markFew", unfollowed := true, recurses := true, named := ["belfry/sip.signs"], apart := false, laid := [("belfry/sip.signs", laid_belfry_sip_signs)], narrowed := true }
def MarkFewUptoSaid : Prop := markFewUptoRow.holds Tryd.pinned (OpenSpec.upto markFewSpec)

/-- 'belfrylaw22.MarkAgain', WHERE WHAT IT READS IS OF BULK AT MOST 1048576: true; the input reads as it did. -/
def markAgainUptoRow : OpenClaim := { program := "ythhfccnhkadkcaadoor", sum := "ee26bbaa86c432a94f037bb183a94b5cd0fc95579ba2eaa2db535e1f56492f5d", func := "belfry/belfrylaw22.MarkAgain", spec := "markAgain", unfollowed := true, recurses := true, named := ["belfry/sip.signs"], apart := false, laid := [("belfry/sip.signs", laid_belfry_sip_signs)], narrowed := true }
def MarkAgainUptoSaid : Prop := markAgainUptoRow.holds Tryd.pinned (OpenSpec.upto markAgainSpec)

/-- 'belfrylaw22.MarkOpposed', WHERE WHAT IT READS IS OF BULK AT MOST 1048576: true; the input reads as it did. -/
def markOpposedUptoRow : OpenClaim := { program := "ythhfccnhkadkcaadoor", sum := "ee26bbaa86c432a94f037bb183a94b5cd0fc95579ba2eaa2db535e1f56492f5d", func := "belfry/belfrylaw22.MarkOpposed", spec := "markOpposed", unfollowed := true, recurses := true, named := ["belfry/sip.signs"], apart := false, laid := [("belfry/sip.signs", laid_belfry_sip_signs)], narrowed := true }
def MarkOpposedUptoSaid : Prop := markOpposedUptoRow.holds Tryd.pinned (OpenSpec.upto markOpposedSpec)

/-- 'belfrylaw22.MarkLeast', WHERE WHAT IT READS IS OF BULK AT MOST 1048576: true; the input reads as it did. -/
def markLeastUptoRow : OpenClaim := { program := "ythhfccnhkadkcaadoor", sum := "ee26bbaa86c432a94f037bb183a94b5cd0fc95579ba2eaa2db535e1f56492f5d", func := "belfry/belfrylaw22.MarkLeast", spec := "markLeast", unfollowed := true, recurses := true, named := ["belfry/sip.signs"], apart := false, laid := [("belfry/sip.signs", laid_belfry_sip_signs)], narrowed := true }
def MarkLeastUptoSaid : Prop := markLeastUptoRow.holds Tryd.pinned (OpenSpec.upto markLeastSpec)

/-- 'belfrylaw07.LoadTakes', WHERE WHAT IT READS IS OF BULK AT MOST 1048576: true; the input reads as it did. -/
def loadTakesUptoRow : OpenClaim := { program := "ythhfccnhkadkcaadoor", sum := "ee26bbaa86c432a94f037bb183a94b5cd0fc95579ba2eaa2db535e1f56492f5d", func := "belfry/belfrylaw07.LoadTakes", spec := "loadTakes", unfollowed := true, recurses := true, named := ["belfry/sip.signs"], apart := false, laid := [("belfry/sip.signs", laid_belfry_sip_signs)], narrowed := true }
def LoadTakesUptoSaid : Prop := loadTakesUptoRow.holds Tryd.pinned (OpenSpec.upto loadTakesSpec)

/-- 'belfrylaw07.LoadChecks', WHERE WHAT IT READS IS OF BULK AT MOST 1048576: true; the input reads as it did. -/
def loadChecksUptoRow : OpenClaim := { program := "ythhfccnhkadkcaadoor", sum := "ee26bbaa86c432a94f037bb183a94b5cd0fc95579ba2eaa2db535e1f56492f5d", func := "belfry/belfrylaw07.LoadChecks", spec := "loadChecks", unfollowed := true, recurses := true, named := ["belfry/sip.signs"], apart := false, laid := [("belfry/sip.signs", laid_belfry_sip_signs)], narrowed := true }
def LoadChecksUptoSaid : Prop := loadChecksUptoRow.holds Tryd.pinned (OpenSpec.upto loadChecksSpec)

/-- 'belfrylaw07.LoadPlays', WHERE WHAT IT READS IS OF BULK AT MOST 1048576: true; the input reads as it did. -/
def loadPlaysUptoRow : OpenClaim := { program := "ythhfccnhkadkcaadoor", sum := "ee26bbaa86c432a94f037bb183a94b5cd0fc95579ba2eaa2db535e1f56492f5d", func := "belfry/belfrylaw07.LoadPlays", spec := "loadPlays", unfollowed := true, recurses := true, named := ["belfry/sip.signs"], apart := false, laid := [("belfry/sip.signs", laid_belfry_sip_signs)], narrowed := true }
def LoadPlaysUptoSaid : Prop := loadPlaysUptoRow.holds Tryd.pinned (OpenSpec.upto loadPlaysSpec)

/-- 'belfrylaw07.LoadDecides', WHERE WHAT IT READS IS OF BULK AT MOST 1048576: true; the input reads as it did. -/
def loadDecidesUptoRow : OpenClaim := { program := "ythhfccnhkadkcaadoor", sum := "ee26bbaa86c432a94f037bb183a94b5cd0fc95579ba2eaa2db535e1f56492f5d", func := "belfry/belfrylaw07.LoadDecides", spec := "loadDecides", unfollowed := true, recurses := true, named := ["belfry/sip.signs"], apart := false, laid := [("belfry/sip.signs", laid_belfry_sip_signs)], narrowed := true }
def LoadDecidesUptoSaid : Prop := loadDecidesUptoRow.holds Tryd.pinned (OpenSpec.upto loadDecidesSpec)

/-- 'belfrylaw07.LoadKeys', WHERE WHAT IT READS IS OF BULK AT MOST 1048576: true; the input reads as it did. -/
def loadKeysUptoRow : OpenClaim := { program := "ythhfccnhkadkcaadoor", sum := "ee26bbaa86c432a94f037bb183a94b5cd0fc95579ba2eaa2db535e1f56492f5d", func := "belfry/belfrylaw07.LoadKeys", spec := "loadKeys", unfollowed := true, recurses := true, named := ["belfry/sip.signs"], apart := false, laid := [("belfry/sip.signs", laid_belfry_sip_signs)], narrowed := true }
def LoadKeysUptoSaid : Prop := loadKeysUptoRow.holds Tryd.pinned (OpenSpec.upto loadKeysSpec)

/-- 'belfrylaw22.MarkWithin', WHERE WHAT IT READS IS OF BULK AT MOST 1048576: true; the input reads as it did. -/
def markWithinUptoRow : OpenClaim := { program := "ythhfccnhkadkcaadoor", sum := "ee26bbaa86c432a94f037bb183a94b5cd0fc95579ba2eaa2db535e1f56492f5d", func := "belfry/belfrylaw22.MarkWithin", spec := "markWithin", unfollowed := true, recurses := true, named := ["belfry/sip.signs"], apart := false, laid := [("belfry/sip.signs", laid_belfry_sip_signs)], narrowed := true }
def MarkWithinUptoSaid : Prop := markWithinUptoRow.holds Tryd.pinned (OpenSpec.upto markWithinSpec)

end Rows
end Go.Proofs.YthhfccnhkadkcaaDoor
