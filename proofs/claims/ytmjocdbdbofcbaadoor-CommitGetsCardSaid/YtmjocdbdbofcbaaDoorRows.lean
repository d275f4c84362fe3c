/-
  NARROWER THAN 'FOR EVERY INPUT', by the rows' own cells (each row's printed sentence says how): BatchGets: laid · BatchBack: laid · BatchTurned: laid · BatchApart: laid · BatchLess: laid · CommitPuts: laid · CommitGets: laid · CommitApart: laid · CommitKept: laid · CommitCuts: laid.
  DERIVED. THE GIVEN ROWS OF THIS SEAT. 10 by the template 'for every input the law returns true; each argument reads behind the call as it read before'; 0 by the template 'total and deterministic' (their statements: YtmjocdbdbofcbaaDoorTotals.lean).
  GIVEN WITH THE SEED: the statements are not yours to turn. If you find one false, say at which input.
  Laid BY PROGRAM, IN A SANDBOX (cutbox-rows.mjs): the forced cells as the released guide's own fill.sh prints them over the translation f0bc2196f8d3509b… (all of the seat's roots in one cut). By AI agents, Wed Nov 11 2026. No macro, syntax, notation, axiom, sorry.
-/
import Derived.Test.YtmjocdbdbofcbaaDoorChecked
import GoSem.Claim
import GoSem.ClaimJoined
import GoSem.ClaimMapViews
import Derived.JoinedTies
import Derived.KernelRfl
namespace Go.Proofs.YtmjocdbdbofcbaaDoor
/- THE CELL 'sum', in the pinned program and in every row, IS THE sha256 OF THE DUMP (.gsa) THAT YtmjocdbdbofcbaaDoorProg.lean LOADS. Nothing in Lean hashes anything: it is a label: what it is worth is what the hold of that sum in a sandbox is worth. -/
noncomputable def Tryd.pinned : Pinned := { name := "ytmjocdbdbofcbaadoor", sum := "f0bc2196f8d3509b4d5f833c5cd0b0a57224c4e3122140c87557b72b75acdae2", checked := Tryd.checked }
namespace Rows
def none {H : Type} : Left H := { results := [], args := [] }

/- WHAT THE LISTED PACKAGE-LEVEL VARIABLES READ AS WHEN THE CALL BEGINS. Each datum BY PROGRAM (the guide's laid-datum.mjs) off the statement by which the dump's own 'gosem.cut.vars' lays the variable. In a bare row this is a premise. The card (YtmjocdbdbofcbaaDoorCards.lean) ties it to the program's text. -/
def laid_modillion_hash_constants {H : Type} : DataW H := .agg [.lit (.int .u32 1116352408), .lit (.int .u32 1899447441), .lit (.int .u32 3049323471), .lit (.int .u32 3921009573), .lit (.int .u32 961987163), .lit (.int .u32 1508970993), .lit (.int .u32 2453635748), .lit (.int .u32 2870763221), .lit (.int .u32 3624381080), .lit (.int .u32 310598401), .lit (.int .u32 607225278), .lit (.int .u32 1426881987), .lit (.int .u32 1925078388), .lit (.int .u32 2162078206), .lit (.int .u32 2614888103), .lit (.int .u32 3248222580), .lit (.int .u32 3835390401), .lit (.int .u32 4022224774), .lit (.int .u32 264347078), .lit (.int .u32 604807628), .lit (.int .u32 770255983), .lit (.int .u32 1249150122), .lit (.int .u32 1555081692), .lit (.int .u32 1996064986), .lit (.int .u32 2554220882), .lit (.int .u32 2821834349), .lit (.int .u32 2952996808), .lit (.int .u32 3210313671), .lit (.int .u32 3336571891), .lit (.int .u32 3584528711), .lit (.int .u32 113926993), .lit (.int .u32 338241895), .lit (.int .u32 666307205), .lit (.int .u32 773529912), .lit (.int .u32 1294757372), .lit (.int .u32 1396182291), .lit (.int .u32 1695183700), .lit (.int .u32 1986661051), .lit (.int .u32 2177026350), .lit (.int .u32 2456956037), .lit (.int .u32 2730485921), .lit (.int .u32 2820302411), .lit (.int .u32 3259730800), .lit (.int .u32 3345764771), .lit (.int .u32 3516065817), .lit (.int .u32 3600352804), .lit (.int .u32 4094571909), .lit (.int .u32 275423344), .lit (.int .u32 430227734), .lit (.int .u32 506948616), .lit (.int .u32 659060556), .lit (.int .u32 883997877), .lit (.int .u32 958139571), .lit (.int .u32 1322822218), .lit (.int .u32 1537002063), .lit (.int .u32 1747873779), .lit (.int .u32 1955562222), .lit (.int .u32 2024104815), .lit (.int .u32 2227730452), .lit (.int .u32 2361852424), .lit (.int .u32 2428436474), .lit (.int .u32 2756734187), .lit (.int .u32 3204031479), .lit (.int .u32 3329325298)]
def laid_modillion_hash_start {H : Type} : DataW H := .agg [.lit (.int .u32 1779033703), .lit (.int .u32 3144134277), .lit (.int .u32 1013904242), .lit (.int .u32 2773480762), .lit (.int .u32 1359893119), .lit (.int .u32 2600822924), .lit (.int .u32 528734635), .lit (.int .u32 1541459225)]

/-- 'modillionlaw11.BatchGets': WHATEVER THE INPUT: true; the input reads as it did. -/
def batchGetsSpec : ChangeSpec := { name := "batchGets", fn := fun _ => fun
  | [d] => { results := [.lit (.bool true)], args := [d] }
  | _ => none }
def batchGetsRow : OpenClaim := { program := "ytmjocdbdbofcbaadoor", sum := "f0bc2196f8d3509b4d5f833c5cd0b0a57224c4e3122140c87557b72b75acdae2", func := "modillion/modillionlaw11.BatchGets", spec := "batchGets", inPlace := ["internal/bytealg.MakeNoZero"], unfollowed := true, recurses := true, named := ["modillion/hash.start", "modillion/hash.constants"], apart := false, laid := [("modillion/hash.constants", laid_modillion_hash_constants), ("modillion/hash.start", laid_modillion_hash_start)] }
def BatchGetsSaid : Prop := batchGetsRow.holds Tryd.pinned (OpenSpec.ofChange batchGetsSpec)

/-- ITS FALSE NEIGHBOUR: 'it returns false'. Refute it at one input. -/
def batchGetsWrong : ChangeSpec := { name := "batchGets", fn := fun _ => fun
  | [d] => { results := [.lit (.bool false)], args := [d] }
  | _ => none }
def BatchGetsWrongFalsely : Prop := batchGetsRow.holds Tryd.pinned (OpenSpec.ofChange batchGetsWrong)

/-- 'modillionlaw11.BatchBack': WHATEVER THE INPUT: true; the input reads as it did. -/
def batchBackSpec : ChangeSpec := { name := "batchBack", fn := fun _ => fun
  | [d] => { results := [.lit (.bool true)], args := [d] }
  | _ => none }
def batchBackRow : OpenClaim := { program := "ytmjocdbdbofcbaadoor", sum := "f0bc2196f8d3509b4d5f833c5cd0b0a57224c4e3122140c87557b72b75acdae2", func := "modillion/modillionlaw11.BatchBack", spec := "batchBack", inPlace := ["internal/bytealg.MakeNoZero"], unfollowed := true, recurses := true, named := ["modillion/hash.start", "modillion/hash.constants"], apart := false, laid := [("modillion/hash.constants", laid_modillion_hash_constants), ("modillion/hash.start", laid_modillion_hash_start)] }
def BatchBackSaid : Prop := batchBackRow.holds Tryd.pinned (OpenSpec.ofChange batchBackSpec)

/-- ITS FALSE NEIGHBOUR: 'it returns false'. Refute it at one input. -/
def batchBackWrong : ChangeSpec := { name := "batchBack", fn := fun _ => fun
  | [d] => { results := [.lit (.bool false)], args := [d] }
  | _ => none }
def BatchBackWrongFalsely : Prop := batchBackRow.holds Tryd.pinned (OpenSpec.ofChange batchBackWrong)

/-- 'modillionlaw11.BatchTurned': WHATEVER THE INPUT: true; the input reads as it did. -/
def batchTurnedSpec : ChangeSpec := { name := "batchTurned", fn := fun _ => fun
  | [d1, d2] => { results := [.lit (.bool true)], args := [d1, d2] }
  | _ => none }
def batchTurnedRow : OpenClaim := { program := "ytmjocdbdbofcbaadoor", sum := "f0bc2196f8d3509b4d5f833c5cd0b0a57224c4e3122140c87557b72b75acdae2", func := "modillion/modillionlaw11.BatchTurned", spec := "batchTurned", inPlace := ["internal/bytealg.MakeNoZero"], unfollowed := true, recurses := true, named := ["modillion/hash.start", "modillion/hash.constants"], apart := false, laid := [("modillion/hash.constants", laid_modillion_hash_constants), ("modillion/hash.start", laid_modillion_hash_start)] }
def BatchTurnedSaid : Prop := batchTurnedRow.holds Tryd.pinned (OpenSpec.ofChange batchTurnedSpec)

/-- ITS FALSE NEIGHBOUR: 'it returns false'. Refute it at one input. -/
def batchTurnedWrong : ChangeSpec := { name := "batchTurned", fn := fun _ => fun
  | [d1, d2] => { results := [.lit (.bool false)], args := [d1, d2] }
  | _ => none }
def BatchTurnedWrongFalsely : Prop := batchTurnedRow.holds Tryd.pinned (OpenSpec.ofChange batchTurnedWrong)

/-- 'modillionlaw11.BatchApart': WHATEVER THE INPUT: true; the input reads as it did. -/
def batchApartSpec : ChangeSpec := { name := "batchApart", fn := fun _ => fun
  | [d1, d2] => { results := [.lit (.bool true)], args := [d1, d2] }
  | _ => none }
def batchApartRow : OpenClaim := { program := "ytmjocdbdbofcbaadoor", sum := "f0bc2196f8d3509b4d5f833c5cd0b0a57224c4e3122140c87557b72b75acdae2", func := "modillion/modillionlaw11.BatchApart", spec := "batchApart", inPlace := ["internal/bytealg.MakeNoZero"], unfollowed := true, recurses := true, named := ["modillion/hash.start", "modillion/hash.constants"], apart := false, laid := [("modillion/hash.constants", laid_modillion_hash_constants), ("modillion/hash.start", laid_modillion_hash_start)] }
def BatchApartSaid : Prop := batchApartRow.holds Tryd.pinned (OpenSpec.ofChange batchApartSpec)

/-- ITS FALSE NEIGHBOUR: 'it returns false'. Refute it at one input. -/
def batchApartWrong : ChangeSpec := { name := "batchApart", fn := fun _ => fun
  | [d1, d2] => { results := [.lit (.bool false)], args := [d1, d2] }
  | _ => none }
def BatchApartWrongFalsely : Prop := batchApartRow.holds Tryd.pinned (OpenSpec.ofChange batchApartWrong)

/-- 'modillionlaw11.BatchLess': WHATEVER THE INPUT: true; the input reads as it did. -/
def batchLessSpec : ChangeSpec := { name := "batchLess", fn := fun _ => fun
  | [d1, d2] => { results := [.lit (.bool true)], args := [d1, d2] }
  | _ => none }
def batchLessRow : OpenClaim := { program := "ytmjocdbdbofcbaadoor", sum := "f0bc2196f8d3509b4d5f833c5cd0b0a57224c4e3122140c87557b72b75acdae2", func := "modillion/modillionlaw11.BatchLess", spec := "batchLess", inPlace := ["internal/bytealg.MakeNoZero"], unfollowed := true, recurses := true, named := ["modillion/hash.start", "modillion/hash.constants"], apart := false, laid := [("modillion/hash.constants", laid_modillion_hash_constants), ("modillion/hash.start", laid_modillion_hash_start)] }
def BatchLessSaid : Prop := batchLessRow.holds Tryd.pinned (OpenSpec.ofChange batchLessSpec)

/-- ITS FALSE NEIGHBOUR: 'it returns false'. Refute it at one input. -/
def batchLessWrong : ChangeSpec := { name := "batchLess", fn := fun _ => fun
  | [d1, d2] => { results := [.lit (.bool false)], args := [d1, d2] }
  | _ => none }
def BatchLessWrongFalsely : Prop := batchLessRow.holds Tryd.pinned (OpenSpec.ofChange batchLessWrong)

/-- 'modillionlaw12.CommitPuts': WHATEVER THE INPUT: true; the input reads as it did. -/
def commitPutsSpec : ChangeSpec := { name := "commitPuts", fn := fun _ => fun
  | [d] => { results := [.lit (.bool true)], args := [d] }
  | _ => none }
def commitPutsRow : OpenClaim := { program := "ytmjocdbdbofcbaadoor", sum := "f0bc2196f8d3509b4d5f833c5cd0b0a57224c4e3122140c87557b72b75acdae2", func := "modillion/modillionlaw12.CommitPuts", spec := "commitPuts", inPlace := ["internal/bytealg.MakeNoZero"], unfollowed := true, recurses := true, named := ["modillion/hash.start", "modillion/hash.constants"], apart := false, laid := [("modillion/hash.constants", laid_modillion_hash_constants), ("modillion/hash.start", laid_modillion_hash_start)] }
def CommitPutsSaid : Prop := commitPutsRow.holds Tryd.pinned (OpenSpec.ofChange commitPutsSpec)

/-- ITS FALSE NEIGHBOUR: 'it returns false'. Refute it at one input. -/
def commitPutsWrong : ChangeSpec := { name := "commitPuts", fn := fun _ => fun
  | [d] => { results := [.lit (.bool false)], args := [d] }
  | _ => none }
def CommitPutsWrongFalsely : Prop := commitPutsRow.holds Tryd.pinned (OpenSpec.ofChange commitPutsWrong)

/-- 'modillionlaw12.CommitGets': WHATEVER THE INPUT: true; the input reads as it did. -/
def commitGetsSpec : ChangeSpec := { name := "commitGets", fn := fun _ => fun
  | [d] => { results := [.lit (.bool true)], args := [d] }
  | _ => none }
def commitGetsRow : OpenClaim := { program := "ytmjocdbdbofcbaadoor", sum := "f0bc2196f8d3509b4d5f833c5cd0b0a57224c4e3122140c87557b72b75acdae2", func := "modillion/modillionlaw12.CommitGets", spec := "commitGets", inPlace := ["internal/bytealg.MakeNoZero"], unfollowed := true, recurses := true, named := ["modillion/hash.start", "modillion/hash.constants"], apart := false, laid := [("modillion/hash.constants", laid_modillion_hash_constants), ("modillion/hash.start", laid_modillion_hash_start)] }
def CommitGetsSaid : Prop := commitGetsRow.holds Tryd.pinned (OpenSpec.ofChange commitGetsSpec)

/-- ITS FALSE NEIGHBOUR: 'it returns false'. Refute it at one input. -/
def commitGetsWrong : ChangeSpec := { name := "commitGets", fn := fun _ => fun
  | [d] => { results := [.lit (.bool false)], args := [d] }
  | _ => none }
def CommitGetsWrongFalsely : Prop := commitGetsRow.holds Tryd.pinned (OpenSpec.ofChange commitGetsWrong)

/-- 'modillionlaw12.CommitApart': WHATEVER THE INPUT: true; the input reads as it did. -/
def commitApartSpec : ChangeSpec := { name := "commitApart", fn := fun _ => fun
  | [d1, d2] => { results := [.lit (.bool true)], args := [d1, d2] }
  | _ => none }
def commitApartRow : OpenClaim := { program := "ytmjocdbdbofcbaadoor", sum := "f0bc2196f8d3509b4d5f833c5cd0b0a57224c4e3122140c87557b72b75acdae2", func := "modillion/modillionlaw12.CommitApart", spec := "commitApart", inPlace := ["internal/bytealg.MakeNoZero"], unfollowed := true, recurses := true, named := ["modillion/hash.start", "modillion/hash.constants"], apart := false, laid := [("modillion/hash.constants", laid_modillion_hash_constants), ("modillion/hash.start", laid_modillion_hash_start)] }
def CommitApartSaid : Prop := commitApartRow.holds Tryd.pinned (OpenSpec.ofChange commitApartSpec)

/-- ITS FALSE NEIGHBOUR: 'it returns false'. Refute it at one input. -/
def commitApartWrong : ChangeSpec := { name := "commitApart", fn := fun _ => fun
  | [d1, d2] => { results := [.lit (.bool false)], args := [d1, d2] }
  | _ => none }
def CommitApartWrongFalsely : Prop := commitApartRow.holds Tryd.pinned (OpenSpec.ofChange commitApartWrong)

/-- 'modillionlaw12.CommitKept': WHATEVER THE INPUT: true; the input reads as it did. -/
def commitKeptSpec : ChangeSpec := { name := "commitKept", fn := fun _ => fun
  | [d1, d2, d3, d4] => { results := [.lit (.bool true)], args := [d1, d2, d3, d4] }
  | _ => none }
def commitKeptRow : OpenClaim := { program := "ytmjocdbdbofcbaadoor", sum := "f0bc2196f8d3509b4d5f833c5cd0b0a57224c4e3122140c87557b72b75acdae2", func := "modillion/modillionlaw12.CommitKept", spec := "commitKept", inPlace := ["internal/bytealg.MakeNoZero"], unfollowed := true, recurses := true, named := ["modillion/hash.start", "modillion/hash.constants"], apart := false, laid := [("modillion/hash.constants", laid_modillion_hash_constants), ("modillion/hash.start", laid_modillion_hash_start)] }
def CommitKeptSaid : Prop := commitKeptRow.holds Tryd.pinned (OpenSpec.ofChange commitKeptSpec)

/-- ITS FALSE NEIGHBOUR: 'it returns false'. Refute it at one input. -/
def commitKeptWrong : ChangeSpec := { name := "commitKept", fn := fun _ => fun
  | [d1, d2, d3, d4] => { results := [.lit (.bool false)], args := [d1, d2, d3, d4] }
  | _ => none }
def CommitKeptWrongFalsely : Prop := commitKeptRow.holds Tryd.pinned (OpenSpec.ofChange commitKeptWrong)

/-- 'modillionlaw12.CommitCuts': WHATEVER THE INPUT: true; the input reads as it did. -/
def commitCutsSpec : ChangeSpec := { name := "commitCuts", fn := fun _ => fun
  | [d1, d2, d3] => { results := [.lit (.bool true)], args := [d1, d2, d3] }
  | _ => none }
def commitCutsRow : OpenClaim := { program := "ytmjocdbdbofcbaadoor", sum := "f0bc2196f8d3509b4d5f833c5cd0b0a57224c4e3122140c87557b72b75acdae2", func := "modillion/modillionlaw12.CommitCuts", spec := "commitCuts", inPlace := ["internal/bytealg.MakeNoZero"], unfollowed := true, recurses := true, named := ["modillion/hash.start", "modillion/hash.constants"], apart := false, laid := [("modillion/hash.constants", laid_modillion_hash_constants), ("modillion/hash.start", laid_modillion_hash_start)] }
def CommitCutsSaid : Prop := commitCutsRow.holds Tryd.pinned (OpenSpec.ofChange commitCutsSpec)

/-- ITS FALSE NEIGHBOUR: 'it returns false'. Refute it at one input. -/
def commitCutsWrong : ChangeSpec := { name := "commitCuts", fn := fun _ => fun
  | [d1, d2, d3] => { results := [.lit (.bool false)], args := [d1, d2, d3] }
  | _ => none }
def CommitCutsWrongFalsely : Prop := commitCutsRow.holds Tryd.pinned (OpenSpec.ofChange commitCutsWrong)

/- THE SECOND FORM. 'bulk': how many values and letters a reading holds, each counted each time it is reached (what is shared counts as often as it is met; a slice's spare places count too). A statement '..UptoSaid' is the law's where the arguments, and the package variables that the reading takes, are together of bulk at most 1048576: NARROWER than '..Said'. Prove '..Said' where nothing that the law and all that it calls make is longer than what came in: it says more and counts as full. Else prove '..UptoSaid'. A law counts once. -/
mutual
def uptoBulk {H : Type} : DataW H → Nat
  | .lit (.string bytes) => bytes.length + 1
  | .lit _ => 1
  | .nil => 1
  | .ptr d => uptoBulk d + 1
  | .slice elems spare => uptoBulkAll elems + uptoBulkAll spare + 1
  | .agg parts => uptoBulkAll parts + 1
  | .iface _ d => uptoBulk d + 1
  | .map entries => uptoBulkEntries entries + 1
  | .held _ => 1
def uptoBulkAll {H : Type} : List (DataW H) → Nat
  | [] => 0
  | d :: r => uptoBulk d + uptoBulkAll r
def uptoBulkEntries {H : Type} : List (Lit × DataW H) → Nat
  | [] => 0
  | x :: r => uptoBulkEntry x + uptoBulkEntries r
def uptoBulkEntry {H : Type} : Lit × DataW H → Nat
  | (.string bytes, d) => bytes.length + uptoBulk d + 1
  | (_, d) => uptoBulk d + 1
 end
def uptoSmall : (H : Type) → List (DataW H) → Bool := fun _ ds => decide (uptoBulkAll ds ≤ 1048576)
def OpenSpec.upto (s : _root_.Go.ChangeSpec) : _root_.Go.OpenSpec := { _root_.Go.OpenSpec.ofChange s with cond := some uptoSmall }

/-- 'modillionlaw11.BatchGets', WHERE WHAT IT READS IS OF BULK AT MOST 1048576: true; the input reads as it did. -/
def batchGetsUptoRow : OpenClaim := { program := "ytmjocdbdbofcbaadoor", sum := "f0bc2196f8d3509b4d5f833c5cd0b0a57224c4e3122140c87557b72b75acdae2", func := "modillion/modillionlaw11.BatchGets", spec := "batchGets", inPlace := ["internal/bytealg.MakeNoZero"], unfollowed := true, recurses := true, named := ["modillion/hash.start", "modillion/hash.constants"], apart := false, laid := [("modillion/hash.constants", laid_modillion_hash_constants), ("modillion/hash.start", laid_modillion_hash_start)], narrowed := true }
def BatchGetsUptoSaid : Prop := batchGetsUptoRow.holds Tryd.pinned (OpenSpec.upto batchGetsSpec)

/-- 'modillionlaw11.BatchBack', WHERE WHAT IT READS IS OF BULK AT MOST 1048576: true; the input reads as it did. -/
def batchBackUptoRow : OpenClaim := { program := "ytmjocdbdbofcbaadoor", sum := "f0bc2196f8d3509b4d5f833c5cd0b0a57224c4e3122140c87557b72b75acdae2", func := "modillion/modillionlaw11.BatchBack", spec := "batchBack", inPlace := ["internal/bytealg.MakeNoZero"], unfollowed := true, recurses := true, named := ["modillion/hash.start", "modillion/hash.constants"], apart := false, laid := [("modillion/hash.constants", laid_modillion_hash_constants), ("modillion/hash.start", laid_modillion_hash_start)], narrowed := true }
def BatchBackUptoSaid : Prop := batchBackUptoRow.holds Tryd.pinned (OpenSpec.upto batchBackSpec)

/-- 'modillionlaw11.BatchTurned', WHERE WHAT IT READS IS OF BULK AT MOST 1048576: true; the input reads as it did. -/
def batchTurnedUptoRow : OpenClaim := { program := "ytmjocdbdbofcbaadoor", sum := "f0bc2196f8d3509b4d5f833c5cd0b0a57224c4e3122140c87557b72b75acdae2", func := "modillion/modillionlaw11.BatchTurned", spec := "batchTurned", inPlace := ["internal/bytealg.MakeNoZero"], unfollowed := true, recurses := true, named := ["modillion/hash.start", "modillion/hash.constants"], apart := false, laid := [("modillion/hash.constants", laid_modillion_hash_constants), ("modillion/hash.start", laid_modillion_hash_start)], narrowed := true }
def BatchTurnedUptoSaid : Prop := batchTurnedUptoRow.holds Tryd.pinned (OpenSpec.upto batchTurnedSpec)

/-- 'modillionlaw11.BatchApart', WHERE WHAT IT READS IS OF BULK AT MOST 1048576: true; the input reads as it did. -/
def batchApartUptoRow : OpenClaim := { program := "ytmjocdbdbofcbaadoor", sum := "f0bc2196f8d3509b4d5f833c5cd0b0a57224c4e3122140c87557b72b75acdae2", func := "modillion/modillionlaw11.BatchApart", spec := "batchApart", inPlace := ["internal/bytealg.MakeNoZero"], unfollowed := true, recurses := true, named := ["modillion/hash.start", "modillion/hash.constants"], apart := false, laid := [("modillion/hash.constants", laid_modillion_hash_constants), ("modillion/hash.start", laid_modillion_hash_start)], narrowed := true }
def BatchApartUptoSaid : Prop := batchApartUptoRow.holds Tryd.pinned (OpenSpec.upto batchApartSpec)

/-- 'modillionlaw11.BatchLess', WHERE WHAT IT READS IS OF BULK AT MOST 1048576: true; the input reads as it did. -/
def batchLessUptoRow : OpenClaim := { program := "ytmjocdbdbofcbaadoor", sum := "f0bc2196f8d3509b4d5f833c5cd0b0a57224c4e3122140c87557b72b75acdae2", func := "modillion/modillionlaw11.BatchLess", spec := "batchLess", inPlace := ["internal/bytealg.MakeNoZero"], unfollowed := true, recurses := true, named := ["modillion/hash.start", "modillion/hash.constants"], apart := false, laid := [("modillion/hash.constants", laid_modillion_hash_constants), ("modillion/hash.start", laid_modillion_hash_start)], narrowed := true }
def BatchLessUptoSaid : Prop := batchLessUptoRow.holds Tryd.pinned (OpenSpec.upto batchLessSpec)

/-- 'modillionlaw12.CommitPuts', WHERE WHAT IT READS IS OF BULK AT MOST 1048576: true; the input reads as it did. -/
def commitPutsUptoRow : OpenClaim := { program := "ytmjocdbdbofcbaadoor", sum := "f0bc2196f8d3509b4d5f833c5cd0b0a57224c4e3122140c87557b72b75acdae2", func := "modillion/modillionlaw12.CommitPuts", spec := "commitPuts", inPlace := ["internal/bytealg.MakeNoZero"], unfollowed := true, recurses := true, named := ["modillion/hash.start", "modillion/hash.constants"], apart := false, laid := [("modillion/hash.constants", laid_modillion_hash_constants), ("modillion/hash.start", laid_modillion_hash_start)], narrowed := true }
def CommitPutsUptoSaid : Prop := commitPutsUptoRow.holds Tryd.pinned (OpenSpec.upto commitPutsSpec)

/-- 'modillionlaw12.CommitGets', WHERE WHAT IT READS IS OF BULK AT MOST 1048576: true; the input reads as it did. -/
def commitGetsUptoRow : OpenClaim := { program := "ytmjocdbdbofcbaadoor", sum := "f0bc2196f8d3509b4d5f833c5cd0b0a57224c4e3122140c87557b72b75acdae2", func := "modillion/modillionlaw12.CommitGets", spec := "commitGets", inPlace := ["internal/bytealg.MakeNoZero"], unfollowed := true, recurses := true, named := ["modillion/hash.start", "modillion/hash.constants"], apart := false, laid := [("modillion/hash.constants", laid_modillion_hash_constants), ("modillion/hash.start", laid_modillion_hash_start)], narrowed := true }
def CommitGetsUptoSaid : Prop := commitGetsUptoRow.holds Tryd.pinned (OpenSpec.upto commitGetsSpec)

/-- 'modillionlaw12.CommitApart', WHERE WHAT IT READS IS OF BULK AT MOST 1048576: true; the input reads as it did. -/
def commitApartUptoRow : OpenClaim := { program := "ytmjocdbdbofcbaadoor", sum := "f0bc2196f8d3509b4d5f833c5cd0b0a57224c4e3122140c87557b72b75acdae2", func := "modillion/modillionlaw12.CommitApart", spec := "commitApart", inPlace := ["internal/bytealg.MakeNoZero"], unfollowed := true, recurses := true, named := ["modillion/hash.start", "modillion/hash.constants"], apart := false, laid := [("modillion/hash.constants", laid_modillion_hash_constants), ("modillion/hash.start", laid_modillion_hash_start)], narrowed := true }
def CommitApartUptoSaid : Prop := commitApartUptoRow.holds Tryd.pinned (OpenSpec.upto commitApartSpec)

/-- 'modillionlaw12.CommitKept', WHERE WHAT IT READS IS OF BULK AT MOST 1048576: true; the input reads as it did. -/
def commitKeptUptoRow : OpenClaim := { program := "ytmjocdbdbofcbaadoor", sum := "f0bc2196f8d3509b4d5f833c5cd0b0a57224c4e3122140c87557b72b75acdae2", func := "modillion/modillionlaw12.CommitKept", spec := "commitKept", inPlace := ["internal/bytealg.MakeNoZero"], unfollowed := true, recurses := true, named := ["modillion/hash.start", "modillion/hash.constants"], apart := false, laid := [("modillion/hash.constants", laid_modillion_hash_constants), ("modillion/hash.start", laid_modillion_hash_start)], narrowed := true }
def CommitKeptUptoSaid : Prop := commitKeptUptoRow.holds Tryd.pinned (OpenSpec.upto commitKeptSpec)

/-- 'modillionlaw12.CommitCuts', WHERE WHAT IT READS IS OF BULK AT MOST 1048576: true; the input reads as it did. -/
def commitCutsUptoRow : OpenClaim := { program := "ytmjocdbdbofcbaadoor", sum := "f0bc2196f8d3509b4d5f833c5cd0b0a57224c4e3122140c87557b72b75acdae2", func := "modillion/modillionlaw12.CommitCuts", spec := "commitCuts", inPlace := ["internal/bytealg.MakeNoZero"], unfollowed := true, recurses := true, named := ["modillion/hash.start", "modillion/hash.constants"], apart := false, laid := [("modillion/hash.constants", laid_modillion_hash_constants), ("modillion/hash.start", laid_modillion_hash_start)], narrowed := true }
def CommitCutsUptoSaid : Prop := commitCutsUptoRow.holds Tryd.pinned (OpenSpec.upto commitCutsSpec)

end Rows
end Go.Proofs.YtmjocdbdbofcbaaDoor
