/-
  No cell of these rows narrows 'for every input' (looked for: loops, veiled, ifaces, maps, wideKeys, modest, calm, conditions, laid).
  DERIVED. THE GIVEN ROWS OF THIS SEAT. 14 by the template 'for every input the law returns true; each argument reads behind the call as it read before'; 0 by the template 'total and deterministic' (their statements: YtafmeagfockdfaaTotals.lean).
  GIVEN WITH THE SEED: the statements are not yours to turn. If you find one false, say at which input.
  Laid BY PROGRAM, IN A SANDBOX (cutbox-rows.mjs): the forced cells as the released guide's own fill.sh prints them over the translation 8496162195ec840d… (all of the seat's roots in one cut). By AI agents, Wed Nov 11 2026. No macro, syntax, notation, axiom, sorry.
-/
import Derived.Test.YtafmeagfockdfaaChecked
import GoSem.Claim
import GoSem.ClaimJoined
import GoSem.ClaimMapViews
import Derived.JoinedTies
import Derived.KernelRfl
namespace Go.Proofs.Ytafmeagfockdfaa
/- THE CELL 'sum', in the pinned program and in every row, IS THE sha256 OF THE DUMP (.gsa) THAT YtafmeagfockdfaaProg.lean LOADS. Nothing in Lean hashes anything: it is a label: what it is worth is what the hold of that sum in a sandbox is worth. -/
noncomputable def Try.pinned : Pinned := { name := "ytafmeagfockdfaa", sum := "8496162195ec840d2727d29a36229092f85dead3752a2d20115a22a3ba73f9a5", checked := Try.checked }
namespace Rows
def none {H : Type} : Left H := { results := [], args := [] }

/-- 'flyleaflaw13.PlaceAll': WHATEVER THE INPUT: true; the input reads as it did. -/
def placeAllSpec : ChangeSpec := { name := "placeAll", fn := fun _ => fun
  | [d1, d2, d3] => { results := [.lit (.bool true)], args := [d1, d2, d3] }
  | _ => none }
def placeAllRow : OpenClaim := { program := "ytafmeagfockdfaa", sum := "8496162195ec840d2727d29a36229092f85dead3752a2d20115a22a3ba73f9a5", func := "flyleaf/flyleaflaw13.PlaceAll", spec := "placeAll", unfollowed := true, recurses := true, apart := false }
def PlaceAllSaid : Prop := placeAllRow.holds Try.pinned (OpenSpec.ofChange placeAllSpec)

/-- ITS FALSE NEIGHBOUR: 'it returns false'. Refute it at one input. -/
def placeAllWrong : ChangeSpec := { name := "placeAll", fn := fun _ => fun
  | [d1, d2, d3] => { results := [.lit (.bool false)], args := [d1, d2, d3] }
  | _ => none }
def PlaceAllWrongFalsely : Prop := placeAllRow.holds Try.pinned (OpenSpec.ofChange placeAllWrong)

/-- 'flyleaflaw13.PlaceApart': WHATEVER THE INPUT: true; the input reads as it did. -/
def placeApartSpec : ChangeSpec := { name := "placeApart", fn := fun _ => fun
  | [d1, d2] => { results := [.lit (.bool true)], args := [d1, d2] }
  | _ => none }
def placeApartRow : OpenClaim := { program := "ytafmeagfockdfaa", sum := "8496162195ec840d2727d29a36229092f85dead3752a2d20115a22a3ba73f9a5", func := "flyleaf/flyleaflaw13.PlaceApart", spec := "placeApart", unfollowed := true, recurses := true, apart := false }
def PlaceApartSaid : Prop := placeApartRow.holds Try.pinned (OpenSpec.ofChange placeApartSpec)

/-- ITS FALSE NEIGHBOUR: 'it returns false'. Refute it at one input. -/
def placeApartWrong : ChangeSpec := { name := "placeApart", fn := fun _ => fun
  | [d1, d2] => { results := [.lit (.bool false)], args := [d1, d2] }
  | _ => none }
def PlaceApartWrongFalsely : Prop := placeApartRow.holds Try.pinned (OpenSpec.ofChange placeApartWrong)

/-- 'flyleaflaw13.PlaceLow': WHATEVER THE INPUT: true; the input reads as it did. -/
def placeLowSpec : ChangeSpec := { name := "placeLow", fn := fun _ => fun
  | [d1, d2] => { results := [.lit (.bool true)], args := [d1, d2] }
  | _ => none }
def placeLowRow : OpenClaim := { program := "ytafmeagfockdfaa", sum := "8496162195ec840d2727d29a36229092f85dead3752a2d20115a22a3ba73f9a5", func := "flyleaf/flyleaflaw13.PlaceLow", spec := "placeLow", unfollowed := true, recurses := true, apart := false }
def PlaceLowSaid : Prop := placeLowRow.holds Try.pinned (OpenSpec.ofChange placeLowSpec)

/-- ITS FALSE NEIGHBOUR: 'it returns false'. Refute it at one input. -/
def placeLowWrong : ChangeSpec := { name := "placeLow", fn := fun _ => fun
  | [d1, d2] => { results := [.lit (.bool false)], args := [d1, d2] }
  | _ => none }
def PlaceLowWrongFalsely : Prop := placeLowRow.holds Try.pinned (OpenSpec.ofChange placeLowWrong)

/-- 'flyleaflaw13.PlaceFills': WHATEVER THE INPUT: true; the input reads as it did. -/
def placeFillsSpec : ChangeSpec := { name := "placeFills", fn := fun _ => fun
  | [d1, d2] => { results := [.lit (.bool true)], args := [d1, d2] }
  | _ => none }
def placeFillsRow : OpenClaim := { program := "ytafmeagfockdfaa", sum := "8496162195ec840d2727d29a36229092f85dead3752a2d20115a22a3ba73f9a5", func := "flyleaf/flyleaflaw13.PlaceFills", spec := "placeFills", unfollowed := true, recurses := true, apart := false }
def PlaceFillsSaid : Prop := placeFillsRow.holds Try.pinned (OpenSpec.ofChange placeFillsSpec)

/-- ITS FALSE NEIGHBOUR: 'it returns false'. Refute it at one input. -/
def placeFillsWrong : ChangeSpec := { name := "placeFills", fn := fun _ => fun
  | [d1, d2] => { results := [.lit (.bool false)], args := [d1, d2] }
  | _ => none }
def PlaceFillsWrongFalsely : Prop := placeFillsRow.holds Try.pinned (OpenSpec.ofChange placeFillsWrong)

/-- 'flyleaflaw15.RegionOnce': WHATEVER THE INPUT: true; the input reads as it did. -/
def regionOnceSpec : ChangeSpec := { name := "regionOnce", fn := fun _ => fun
  | [d1, d2] => { results := [.lit (.bool true)], args := [d1, d2] }
  | _ => none }
def regionOnceRow : OpenClaim := { program := "ytafmeagfockdfaa", sum := "8496162195ec840d2727d29a36229092f85dead3752a2d20115a22a3ba73f9a5", func := "flyleaf/flyleaflaw15.RegionOnce", spec := "regionOnce", unfollowed := true, recurses := true, apart := false }
def RegionOnceSaid : Prop := regionOnceRow.holds Try.pinned (OpenSpec.ofChange regionOnceSpec)

/-- ITS FALSE NEIGHBOUR: 'it returns false'. Refute it at one input. -/
def regionOnceWrong : ChangeSpec := { name := "regionOnce", fn := fun _ => fun
  | [d1, d2] => { results := [.lit (.bool false)], args := [d1, d2] }
  | _ => none }
def RegionOnceWrongFalsely : Prop := regionOnceRow.holds Try.pinned (OpenSpec.ofChange regionOnceWrong)

/-- 'flyleaflaw10.SymbolThere': WHATEVER THE INPUT: true; the input reads as it did. -/
def symbolThereSpec : ChangeSpec := { name := "symbolThere", fn := fun _ => fun
  | [d1, d2] => { results := [.lit (.bool true)], args := [d1, d2] }
  | _ => none }
def symbolThereRow : OpenClaim := { program := "ytafmeagfockdfaa", sum := "8496162195ec840d2727d29a36229092f85dead3752a2d20115a22a3ba73f9a5", func := "flyleaf/flyleaflaw10.SymbolThere", spec := "symbolThere", unfollowed := true, recurses := true, apart := false }
def SymbolThereSaid : Prop := symbolThereRow.holds Try.pinned (OpenSpec.ofChange symbolThereSpec)

/-- ITS FALSE NEIGHBOUR: 'it returns false'. Refute it at one input. -/
def symbolThereWrong : ChangeSpec := { name := "symbolThere", fn := fun _ => fun
  | [d1, d2] => { results := [.lit (.bool false)], args := [d1, d2] }
  | _ => none }
def SymbolThereWrongFalsely : Prop := symbolThereRow.holds Try.pinned (OpenSpec.ofChange symbolThereWrong)

/-- 'flyleaflaw15.RegionKeeps': WHATEVER THE INPUT: true; the input reads as it did. -/
def regionKeepsSpec : ChangeSpec := { name := "regionKeeps", fn := fun _ => fun
  | [d1, d2] => { results := [.lit (.bool true)], args := [d1, d2] }
  | _ => none }
def regionKeepsRow : OpenClaim := { program := "ytafmeagfockdfaa", sum := "8496162195ec840d2727d29a36229092f85dead3752a2d20115a22a3ba73f9a5", func := "flyleaf/flyleaflaw15.RegionKeeps", spec := "regionKeeps", unfollowed := true, recurses := true, apart := false }
def RegionKeepsSaid : Prop := regionKeepsRow.holds Try.pinned (OpenSpec.ofChange regionKeepsSpec)

/-- ITS FALSE NEIGHBOUR: 'it returns false'. Refute it at one input. -/
def regionKeepsWrong : ChangeSpec := { name := "regionKeeps", fn := fun _ => fun
  | [d1, d2] => { results := [.lit (.bool false)], args := [d1, d2] }
  | _ => none }
def RegionKeepsWrongFalsely : Prop := regionKeepsRow.holds Try.pinned (OpenSpec.ofChange regionKeepsWrong)

/-- 'flyleaflaw15.RegionGaps': WHATEVER THE INPUT: true; the input reads as it did. -/
def regionGapsSpec : ChangeSpec := { name := "regionGaps", fn := fun _ => fun
  | [d1, d2] => { results := [.lit (.bool true)], args := [d1, d2] }
  | _ => none }
def regionGapsRow : OpenClaim := { program := "ytafmeagfockdfaa", sum := "8496162195ec840d2727d29a36229092f85dead3752a2d20115a22a3ba73f9a5", func := "flyleaf/flyleaflaw15.RegionGaps", spec := "regionGaps", unfollowed := true, recurses := true, apart := false }
def RegionGapsSaid : Prop := regionGapsRow.holds Try.pinned (OpenSpec.ofChange regionGapsSpec)

/-- ITS FALSE NEIGHBOUR: 'it returns false'. Refute it at one input. -/
def regionGapsWrong : ChangeSpec := { name := "regionGaps", fn := fun _ => fun
  | [d1, d2] => { results := [.lit (.bool false)], args := [d1, d2] }
  | _ => none }
def RegionGapsWrongFalsely : Prop := regionGapsRow.holds Try.pinned (OpenSpec.ofChange regionGapsWrong)

/-- 'flyleaflaw15.RegionAsks': WHATEVER THE INPUT: true; the input reads as it did. -/
def regionAsksSpec : ChangeSpec := { name := "regionAsks", fn := fun _ => fun
  | [d1, d2] => { results := [.lit (.bool true)], args := [d1, d2] }
  | _ => none }
def regionAsksRow : OpenClaim := { program := "ytafmeagfockdfaa", sum := "8496162195ec840d2727d29a36229092f85dead3752a2d20115a22a3ba73f9a5", func := "flyleaf/flyleaflaw15.RegionAsks", spec := "regionAsks", unfollowed := true, recurses := true, apart := false }
def RegionAsksSaid : Prop := regionAsksRow.holds Try.pinned (OpenSpec.ofChange regionAsksSpec)

/-- ITS FALSE NEIGHBOUR: 'it returns false'. Refute it at one input. -/
def regionAsksWrong : ChangeSpec := { name := "regionAsks", fn := fun _ => fun
  | [d1, d2] => { results := [.lit (.bool false)], args := [d1, d2] }
  | _ => none }
def RegionAsksWrongFalsely : Prop := regionAsksRow.holds Try.pinned (OpenSpec.ofChange regionAsksWrong)

/-- 'flyleaflaw09.DynamicBack': WHATEVER THE INPUT: true; the input reads as it did. -/
def dynamicBackSpec : ChangeSpec := { name := "dynamicBack", fn := fun _ => fun
  | [d1, d2, d3] => { results := [.lit (.bool true)], args := [d1, d2, d3] }
  | _ => none }
def dynamicBackRow : OpenClaim := { program := "ytafmeagfockdfaa", sum := "8496162195ec840d2727d29a36229092f85dead3752a2d20115a22a3ba73f9a5", func := "flyleaf/flyleaflaw09.DynamicBack", spec := "dynamicBack", inPlace := ["internal/abi.NoEscape"], unfollowed := true, recurses := true, apart := false }
def DynamicBackSaid : Prop := dynamicBackRow.holds Try.pinned (OpenSpec.ofChange dynamicBackSpec)

/-- ITS FALSE NEIGHBOUR: 'it returns false'. Refute it at one input. -/
def dynamicBackWrong : ChangeSpec := { name := "dynamicBack", fn := fun _ => fun
  | [d1, d2, d3] => { results := [.lit (.bool false)], args := [d1, d2, d3] }
  | _ => none }
def DynamicBackWrongFalsely : Prop := dynamicBackRow.holds Try.pinned (OpenSpec.ofChange dynamicBackWrong)

/-- 'flyleaflaw09.DynamicLists': WHATEVER THE INPUT: true; the input reads as it did. -/
def dynamicListsSpec : ChangeSpec := { name := "dynamicLists", fn := fun _ => fun
  | [d1, d2, d3] => { results := [.lit (.bool true)], args := [d1, d2, d3] }
  | _ => none }
def dynamicListsRow : OpenClaim := { program := "ytafmeagfockdfaa", sum := "8496162195ec840d2727d29a36229092f85dead3752a2d20115a22a3ba73f9a5", func := "flyleaf/flyleaflaw09.DynamicLists", spec := "dynamicLists", inPlace := ["internal/abi.NoEscape"], unfollowed := true, recurses := true, apart := false }
def DynamicListsSaid : Prop := dynamicListsRow.holds Try.pinned (OpenSpec.ofChange dynamicListsSpec)

/-- ITS FALSE NEIGHBOUR: 'it returns false'. Refute it at one input. -/
def dynamicListsWrong : ChangeSpec := { name := "dynamicLists", fn := fun _ => fun
  | [d1, d2, d3] => { results := [.lit (.bool false)], args := [d1, d2, d3] }
  | _ => none }
def DynamicListsWrongFalsely : Prop := dynamicListsRow.holds Try.pinned (OpenSpec.ofChange dynamicListsWrong)

/-- 'flyleaflaw10.SymbolBytes': WHATEVER THE INPUT: true; the input reads as it did. -/
def symbolBytesSpec : ChangeSpec := { name := "symbolBytes", fn := fun _ => fun
  | [d1, d2, d3] => { results := [.lit (.bool true)], args := [d1, d2, d3] }
  | _ => none }
def symbolBytesRow : OpenClaim := { program := "ytafmeagfockdfaa", sum := "8496162195ec840d2727d29a36229092f85dead3752a2d20115a22a3ba73f9a5", func := "flyleaf/flyleaflaw10.SymbolBytes", spec := "symbolBytes", inPlace := ["internal/abi.NoEscape", "internal/bytealg.MakeNoZero"], unfollowed := true, recurses := true, apart := false }
def SymbolBytesSaid : Prop := symbolBytesRow.holds Try.pinned (OpenSpec.ofChange symbolBytesSpec)

/-- ITS FALSE NEIGHBOUR: 'it returns false'. Refute it at one input. -/
def symbolBytesWrong : ChangeSpec := { name := "symbolBytes", fn := fun _ => fun
  | [d1, d2, d3] => { results := [.lit (.bool false)], args := [d1, d2, d3] }
  | _ => none }
def SymbolBytesWrongFalsely : Prop := symbolBytesRow.holds Try.pinned (OpenSpec.ofChange symbolBytesWrong)

/-- 'flyleaflaw08.ElfParses': WHATEVER THE INPUT: true; the input reads as it did. -/
def elfParsesSpec : ChangeSpec := { name := "elfParses", fn := fun _ => fun
  | [d1, d2] => { results := [.lit (.bool true)], args := [d1, d2] }
  | _ => none }
def elfParsesRow : OpenClaim := { program := "ytafmeagfockdfaa", sum := "8496162195ec840d2727d29a36229092f85dead3752a2d20115a22a3ba73f9a5", func := "flyleaf/flyleaflaw08.ElfParses", spec := "elfParses", inPlace := ["internal/abi.NoEscape", "internal/bytealg.MakeNoZero"], unfollowed := true, recurses := true, apart := false }
def ElfParsesSaid : Prop := elfParsesRow.holds Try.pinned (OpenSpec.ofChange elfParsesSpec)

/-- ITS FALSE NEIGHBOUR: 'it returns false'. Refute it at one input. -/
def elfParsesWrong : ChangeSpec := { name := "elfParses", fn := fun _ => fun
  | [d1, d2] => { results := [.lit (.bool false)], args := [d1, d2] }
  | _ => none }
def ElfParsesWrongFalsely : Prop := elfParsesRow.holds Try.pinned (OpenSpec.ofChange elfParsesWrong)

/-- 'flyleaflaw08.ElfReads': WHATEVER THE INPUT: true; the input reads as it did. -/
def elfReadsSpec : ChangeSpec := { name := "elfReads", fn := fun _ => fun
  | [d] => { results := [.lit (.bool true)], args := [d] }
  | _ => none }
def elfReadsRow : OpenClaim := { program := "ytafmeagfockdfaa", sum := "8496162195ec840d2727d29a36229092f85dead3752a2d20115a22a3ba73f9a5", func := "flyleaf/flyleaflaw08.ElfReads", spec := "elfReads", inPlace := ["internal/abi.NoEscape", "internal/bytealg.MakeNoZero"], unfollowed := true, recurses := true, apart := false }
def ElfReadsSaid : Prop := elfReadsRow.holds Try.pinned (OpenSpec.ofChange elfReadsSpec)

/-- ITS FALSE NEIGHBOUR: 'it returns false'. Refute it at one input. -/
def elfReadsWrong : ChangeSpec := { name := "elfReads", fn := fun _ => fun
  | [d] => { results := [.lit (.bool false)], args := [d] }
  | _ => none }
def ElfReadsWrongFalsely : Prop := elfReadsRow.holds Try.pinned (OpenSpec.ofChange elfReadsWrong)

/- THE SECOND FORM. 'bulk': how many values and letters a reading holds, each counted each time it is reached (what is shared counts as often as it is met; a slice's spare places count too). A statement '..UptoSaid' is the law's where the arguments, and the package variables that the reading takes, are together of bulk at most 1048576: NARROWER than '..Said'. Prove '..Said' where nothing that the law and all that it calls make is longer than what came in: it says more and counts as full. Else prove '..UptoSaid'. A law counts once. -/
mutual
def uptoBulk {H : Type} : DataW H → Nat
  | .lit (.string bytes) => bytes.length + 1
  | .lit _ => 1
  | .nil => 1
  | .ptr d => uptoBulk d + 1
  | .slice elems spare => uptoBulkAll elems + uptoBulkAll spare + 1
  | .agg parts => uptoBulkAll parts + 1
  | .iface _ d => uptoBulk d + 1
  | .map entries => uptoBulkEntries entries + 1
  | .held _ => 1
def uptoBulkAll {H : Type} : List (DataW H) → Nat
  | [] => 0
  | d :: r => uptoBulk d + uptoBulkAll r
def uptoBulkEntries {H : Type} : List (Lit × DataW H) → Nat
  | [] => 0
  | x :: r => uptoBulkEntry x + uptoBulkEntries r
def uptoBulkEntry {H : Type} : Lit × DataW H → Nat
  | (.string bytes, d) => bytes.length + uptoBulk d + 1
  | (_, d) => uptoBulk d + 1
 end
def uptoSmall : (H : Type) → List (DataW H) → Bool := fun _ ds => decide (uptoBulkAll ds ≤ 1048576)
def OpenSpec.upto (s : _root_.Go.ChangeSpec) : _root_.Go.OpenSpec := { _root_.Go.OpenSpec.ofChange s with cond := some uptoSmall }

/-- 'flyleaflaw13.PlaceAll', WHERE WHAT IT READS IS OF BULK AT MOST 1048576: true; the input reads as it did. -/
def placeAllUptoRow : OpenClaim := { program := "ytafmeagfockdfaa", sum := "8496162195ec840d2727d29a36229092f85dead3752a2d20115a22a3ba73f9a5", func := "flyleaf/flyleaflaw13.PlaceAll", spec := "placeAll", unfollowed := true, recurses := true, apart := false, narrowed := true }
def PlaceAllUptoSaid : Prop := placeAllUptoRow.holds Try.pinned (OpenSpec.upto placeAllSpec)

/-- 'flyleaflaw13.PlaceApart', WHERE WHAT IT READS IS OF BULK AT MOST 1048576: true; the input reads as it did. -/
def placeApartUptoRow : OpenClaim := { program := "ytafmeagfockdfaa", sum := "8496162195ec840d2727d29a36229092f85dead3752a2d20115a22a3ba73f9a5", func := "flyleaf/flyleaflaw13.PlaceApart", spec := "placeApart", unfollowed := true, recurses := true, apart := false, narrowed := true }
def PlaceApartUptoSaid : Prop := placeApartUptoRow.holds Try.pinned (OpenSpec.upto placeApartSpec)

/-- 'flyleaflaw13.PlaceLow', WHERE WHAT IT READS IS OF BULK AT MOST 1048576: true; the input reads as it did. -/
def placeLowUptoRow : OpenClaim := { program := "ytafmeagfockdfaa", sum := "8496162195ec840d2727d29a36229092f85dead3752a2d20115a22a3ba73f9a5", func := "flyleaf/flyleaflaw13.PlaceLow", spec := "placeLow", unfollowed := true, recurses := true, apart := false, narrowed := true }
def PlaceLowUptoSaid : Prop := placeLowUptoRow.holds Try.pinned (OpenSpec.upto placeLowSpec)

/-- 'flyleaflaw13.PlaceFills', WHERE WHAT IT READS IS OF BULK AT MOST 1048576: true; the input reads as it did. -/
def placeFillsUptoRow : OpenClaim := { program := "ytafmeagfockdfaa", sum := "8496162195ec840d2727d29a36229092f85dead3752a2d20115a22a3ba73f9a5", func := "flyleaf/flyleaflaw13.PlaceFills", spec := "placeFills", unfollowed := true, recurses := true, apart := false, narrowed := true }
def PlaceFillsUptoSaid : Prop := placeFillsUptoRow.holds Try.pinned (OpenSpec.upto placeFillsSpec)

/-- 'flyleaflaw15.RegionOnce', WHERE WHAT IT READS IS OF BULK AT MOST 1048576: true; the input reads as it did. -/
def regionOnceUptoRow : OpenClaim := { program := "ytafmeagfockdfaa", sum := "8496162195ec840d2727d29a36229092f85dead3752a2d20115a22a3ba73f9a5", func := "flyleaf/flyleaflaw15.RegionOnce", spec := "regionOnce", unfollowed := true, recurses := true, apart := false, narrowed := true }
def RegionOnceUptoSaid : Prop := regionOnceUptoRow.holds Try.pinned (OpenSpec.upto regionOnceSpec)

/-- 'flyleaflaw10.SymbolThere', WHERE WHAT IT READS IS OF BULK AT MOST 1048576: true; the input reads as it did. -/
def symbolThereUptoRow : OpenClaim := { program := "ytafmeagfockdfaa", sum := "8496162195ec840d2727d29a36229092f85dead3752a2d20115a22a3ba73f9a5", func := "flyleaf/flyleaflaw10.SymbolThere", spec := "symbolThere", unfollowed := true, recurses := true, apart := false, narrowed := true }
def SymbolThereUptoSaid : Prop := symbolThereUptoRow.holds Try.pinned (OpenSpec.upto symbolThereSpec)

/-- 'flyleaflaw15.RegionKeeps', WHERE WHAT IT READS IS OF BULK AT MOST 1048576: true; the input reads as it did. -/
def regionKeepsUptoRow : OpenClaim := { program := "ytafmeagfockdfaa", sum := "8496162195ec840d2727d29a36229092f85dead3752a2d20115a22a3ba73f9a5", func := "flyleaf/flyleaflaw15.RegionKeeps", spec := "regionKeeps", unfollowed := true, recurses := true, apart := false, narrowed := true }
def RegionKeepsUptoSaid : Prop := regionKeepsUptoRow.holds Try.pinned (OpenSpec.upto regionKeepsSpec)

/-- 'flyleaflaw15.RegionGaps', WHERE WHAT IT READS IS OF BULK AT MOST 1048576: true; the input reads as it did. -/
def regionGapsUptoRow : OpenClaim := { program := "ytafmeagfockdfaa", sum := "8496162195ec840d2727d29a36229092f85dead3752a2d20115a22a3ba73f9a5", func := "flyleaf/flyleaflaw15.RegionGaps", spec := "regionGaps", unfollowed := true, recurses := true, apart := false, narrowed := true }
def RegionGapsUptoSaid : Prop := regionGapsUptoRow.holds Try.pinned (OpenSpec.upto regionGapsSpec)

/-- 'flyleaflaw15.RegionAsks', WHERE WHAT IT READS IS OF BULK AT MOST 1048576: true; the input reads as it did. -/
def regionAsksUptoRow : OpenClaim := { program := "ytafmeagfockdfaa", sum := "8496162195ec840d2727d29a36229092f85dead3752a2d20115a22a3ba73f9a5", func := "flyleaf/flyleaflaw15.RegionAsks", spec := "regionAsks", unfollowed := true, recurses := true, apart := false, narrowed := true }
def RegionAsksUptoSaid : Prop := regionAsksUptoRow.holds Try.pinned (OpenSpec.upto regionAsksSpec)

/-- 'flyleaflaw09.DynamicBack', WHERE WHAT IT READS IS OF BULK AT MOST 1048576: true; the input reads as it did. -/
def dynamicBackUptoRow : OpenClaim := { program := "ytafmeagfockdfaa", sum := "8496162195ec840d2727d29a36229092f85dead3752a2d20115a22a3ba73f9a5", func := "flyleaf/flyleaflaw09.DynamicBack", spec := "dynamicBack", inPlace := ["internal/abi.NoEscape"], unfollowed := true, recurses := true, apart := false, narrowed := true }
def DynamicBackUptoSaid : Prop := dynamicBackUptoRow.holds Try.pinned (OpenSpec.upto dynamicBackSpec)

/-- 'flyleaflaw09.DynamicLists', WHERE WHAT IT READS IS OF BULK AT MOST 1048576: true; the input reads as it did. -/
def dynamicListsUptoRow : OpenClaim := { program := "ytafmeagfockdfaa", sum := "8496162195ec840d2727d29a36229092f85dead3752a2d20115a22a3ba73f9a5", func := "flyleaf/flyleaflaw09.DynamicLists", spec := "dynamicLists", inPlace := ["internal/abi.NoEscape"], unfollowed := true, recurses := true, apart := false, narrowed := true }
def DynamicListsUptoSaid : Prop := dynamicListsUptoRow.holds Try.pinned (OpenSpec.upto dynamicListsSpec)

/-- 'flyleaflaw10.SymbolBytes', WHERE WHAT IT READS IS OF BULK AT MOST 1048576: true; the input reads as it did. -/
def symbolBytesUptoRow : OpenClaim := { program := "ytafmeagfockdfaa", sum := "8496162195ec840d2727d29a36229092f85dead3752a2d20115a22a3ba73f9a5", func := "flyleaf/flyleaflaw10.SymbolBytes", spec := "symbolBytes", inPlace := ["internal/abi.NoEscape", "internal/bytealg.MakeNoZero"], unfollowed := true, recurses := true, apart := false, narrowed := true }
def SymbolBytesUptoSaid : Prop := symbolBytesUptoRow.holds Try.pinned (OpenSpec.upto symbolBytesSpec)

/-- 'flyleaflaw08.ElfParses', WHERE WHAT IT READS IS OF BULK AT MOST 1048576: true; the input reads as it did. -/
def elfParsesUptoRow : OpenClaim := { program := "ytafmeagfockdfaa", sum := "8496162195ec840d2727d29a36229092f85dead3752a2d20115a22a3ba73f9a5", func := "flyleaf/flyleaflaw08.ElfParses", spec := "elfParses", inPlace := ["internal/abi.NoEscape", "internal/bytealg.MakeNoZero"], unfollowed := true, recurses := true, apart := false, narrowed := true }
def ElfParsesUptoSaid : Prop := elfParsesUptoRow.holds Try.pinned (OpenSpec.upto elfParsesSpec)

/-- 'flyleaflaw08.ElfReads', WHERE WHAT IT READS IS OF BULK AT MOST 1048576: true; the input reads as it did. -/
def elfReadsUptoRow : OpenClaim := { program := "ytafmeagfockdfaa", sum := "8496162195ec840d2727d29a36229092f85dead3752a2d20115a22a3ba73f9a5", func := "flyleaf/flyleaflaw08.ElfReads", spec := "elfReads", inPlace := ["internal/abi.NoEscape", "internal/bytealg.MakeNoZero"], unfollowed := true, recurses := true, apart := false, narrowed := true }
def ElfReadsUptoSaid : Prop := elfReadsUptoRow.holds Try.pinned (OpenSpec.upto elfReadsSpec)

end Rows
end Go.Proofs.Ytafmeagfockdfaa
