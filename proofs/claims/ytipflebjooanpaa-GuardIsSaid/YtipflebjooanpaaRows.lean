/-
  No cell of these rows narrows 'for every input' (looked for: loops, veiled, ifaces, maps, wideKeys, modest, calm, conditions, laid).
  DERIVED. THE GIVEN ROWS OF THIS SEAT. 13 by the template 'for every input the law returns true; each argument reads behind the call as it read before'; 0 by the template 'total and deterministic' (their statements: YtipflebjooanpaaTotals.lean).
  GIVEN WITH THE SEED: the statements are not yours to turn. If you find one false, say at which input.
  Laid BY PROGRAM, IN A SANDBOX (cutbox-rows.mjs): the forced cells as the released guide's own fill.sh prints them over the translation 4fa0a763d2693645… (all of the seat's roots in one cut). By AI agents, Wed Nov 11 2026. No macro, syntax, notation, axiom, sorry.
-/
import Derived.Test.YtipflebjooanpaaChecked
import GoSem.Claim
import GoSem.ClaimJoined
import GoSem.ClaimMapViews
import Derived.JoinedTies
import Derived.KernelRfl
namespace Go.Proofs.Ytipflebjooanpaa
/- THE CELL 'sum', in the pinned program and in every row, IS THE sha256 OF THE DUMP (.gsa) THAT YtipflebjooanpaaProg.lean LOADS. Nothing in Lean hashes anything: it is a label: what it is worth is what the hold of that sum in a sandbox is worth. -/
noncomputable def Try.pinned : Pinned := { name := "ytipflebjooanpaa", sum := "4fa0a763d26936454a411df0b2362b12fb7cf1e684cfe7598ef1129c9ff38b15", checked := Try.checked }
namespace Rows
def none {H : Type} : Left H := { results := [], args := [] }

/-- 'tenterhooklaw03.MemRows': WHATEVER THE INPUT: true; the input reads as it did. -/
def memRowsSpec : ChangeSpec := { name := "memRows", fn := fun _ => fun
  | [d1, d2, d3, d4, d5] => { results := [.lit (.bool true)], args := [d1, d2, d3, d4, d5] }
  | _ => none }
def memRowsRow : OpenClaim := { program := "ytipflebjooanpaa", sum := "4fa0a763d26936454a411df0b2362b12fb7cf1e684cfe7598ef1129c9ff38b15", func := "tenterhook/tenterhooklaw03.MemRows", spec := "memRows", inPlace := ["internal/bytealg.MakeNoZero"], apart := false }
def MemRowsSaid : Prop := memRowsRow.holds Try.pinned (OpenSpec.ofChange memRowsSpec)

/-- ITS FALSE NEIGHBOUR: 'it returns false'. Refute it at one input. -/
def memRowsWrong : ChangeSpec := { name := "memRows", fn := fun _ => fun
  | [d1, d2, d3, d4, d5] => { results := [.lit (.bool false)], args := [d1, d2, d3, d4, d5] }
  | _ => none }
def MemRowsWrongFalsely : Prop := memRowsRow.holds Try.pinned (OpenSpec.ofChange memRowsWrong)

/-- 'tenterhooklaw03.MemIs': WHATEVER THE INPUT: true; the input reads as it did. -/
def memIsSpec : ChangeSpec := { name := "memIs", fn := fun _ => fun
  | [d1, d2, d3, d4, d5] => { results := [.lit (.bool true)], args := [d1, d2, d3, d4, d5] }
  | _ => none }
def memIsRow : OpenClaim := { program := "ytipflebjooanpaa", sum := "4fa0a763d26936454a411df0b2362b12fb7cf1e684cfe7598ef1129c9ff38b15", func := "tenterhook/tenterhooklaw03.MemIs", spec := "memIs", inPlace := ["internal/bytealg.MakeNoZero"], apart := false }
def MemIsSaid : Prop := memIsRow.holds Try.pinned (OpenSpec.ofChange memIsSpec)

/-- ITS FALSE NEIGHBOUR: 'it returns false'. Refute it at one input. -/
def memIsWrong : ChangeSpec := { name := "memIs", fn := fun _ => fun
  | [d1, d2, d3, d4, d5] => { results := [.lit (.bool false)], args := [d1, d2, d3, d4, d5] }
  | _ => none }
def MemIsWrongFalsely : Prop := memIsRow.holds Try.pinned (OpenSpec.ofChange memIsWrong)

/-- 'tenterhooklaw12.GuardParts': WHATEVER THE INPUT: true; the input reads as it did. -/
def guardPartsSpec : ChangeSpec := { name := "guardParts", fn := fun _ => fun
  | [d1, d2, d3, d4, d5] => { results := [.lit (.bool true)], args := [d1, d2, d3, d4, d5] }
  | _ => none }
def guardPartsRow : OpenClaim := { program := "ytipflebjooanpaa", sum := "4fa0a763d26936454a411df0b2362b12fb7cf1e684cfe7598ef1129c9ff38b15", func := "tenterhook/tenterhooklaw12.GuardParts", spec := "guardParts", apart := false }
def GuardPartsSaid : Prop := guardPartsRow.holds Try.pinned (OpenSpec.ofChange guardPartsSpec)

/-- ITS FALSE NEIGHBOUR: 'it returns false'. Refute it at one input. -/
def guardPartsWrong : ChangeSpec := { name := "guardParts", fn := fun _ => fun
  | [d1, d2, d3, d4, d5] => { results := [.lit (.bool false)], args := [d1, d2, d3, d4, d5] }
  | _ => none }
def GuardPartsWrongFalsely : Prop := guardPartsRow.holds Try.pinned (OpenSpec.ofChange guardPartsWrong)

/-- 'tenterhooklaw12.GuardHost': WHATEVER THE INPUT: true; the input reads as it did. -/
def guardHostSpec : ChangeSpec := { name := "guardHost", fn := fun _ => fun
  | [d1, d2, d3] => { results := [.lit (.bool true)], args := [d1, d2, d3] }
  | _ => none }
def guardHostRow : OpenClaim := { program := "ytipflebjooanpaa", sum := "4fa0a763d26936454a411df0b2362b12fb7cf1e684cfe7598ef1129c9ff38b15", func := "tenterhook/tenterhooklaw12.GuardHost", spec := "guardHost", apart := false }
def GuardHostSaid : Prop := guardHostRow.holds Try.pinned (OpenSpec.ofChange guardHostSpec)

/-- ITS FALSE NEIGHBOUR: 'it returns false'. Refute it at one input. -/
def guardHostWrong : ChangeSpec := { name := "guardHost", fn := fun _ => fun
  | [d1, d2, d3] => { results := [.lit (.bool false)], args := [d1, d2, d3] }
  | _ => none }
def GuardHostWrongFalsely : Prop := guardHostRow.holds Try.pinned (OpenSpec.ofChange guardHostWrong)

/-- 'tenterhooklaw12.GuardApart': WHATEVER THE INPUT: true; the input reads as it did. -/
def guardApartSpec : ChangeSpec := { name := "guardApart", fn := fun _ => fun
  | [d1, d2, d3, d4] => { results := [.lit (.bool true)], args := [d1, d2, d3, d4] }
  | _ => none }
def guardApartRow : OpenClaim := { program := "ytipflebjooanpaa", sum := "4fa0a763d26936454a411df0b2362b12fb7cf1e684cfe7598ef1129c9ff38b15", func := "tenterhook/tenterhooklaw12.GuardApart", spec := "guardApart", apart := false }
def GuardApartSaid : Prop := guardApartRow.holds Try.pinned (OpenSpec.ofChange guardApartSpec)

/-- ITS FALSE NEIGHBOUR: 'it returns false'. Refute it at one input. -/
def guardApartWrong : ChangeSpec := { name := "guardApart", fn := fun _ => fun
  | [d1, d2, d3, d4] => { results := [.lit (.bool false)], args := [d1, d2, d3, d4] }
  | _ => none }
def GuardApartWrongFalsely : Prop := guardApartRow.holds Try.pinned (OpenSpec.ofChange guardApartWrong)

/-- 'tenterhooklaw12.GuardRegions': WHATEVER THE INPUT: true; the input reads as it did. -/
def guardRegionsSpec : ChangeSpec := { name := "guardRegions", fn := fun _ => fun
  | [d1, d2] => { results := [.lit (.bool true)], args := [d1, d2] }
  | _ => none }
def guardRegionsRow : OpenClaim := { program := "ytipflebjooanpaa", sum := "4fa0a763d26936454a411df0b2362b12fb7cf1e684cfe7598ef1129c9ff38b15", func := "tenterhook/tenterhooklaw12.GuardRegions", spec := "guardRegions", apart := false }
def GuardRegionsSaid : Prop := guardRegionsRow.holds Try.pinned (OpenSpec.ofChange guardRegionsSpec)

/-- ITS FALSE NEIGHBOUR: 'it returns false'. Refute it at one input. -/
def guardRegionsWrong : ChangeSpec := { name := "guardRegions", fn := fun _ => fun
  | [d1, d2] => { results := [.lit (.bool false)], args := [d1, d2] }
  | _ => none }
def GuardRegionsWrongFalsely : Prop := guardRegionsRow.holds Try.pinned (OpenSpec.ofChange guardRegionsWrong)

/-- 'tenterhooklaw03.MemMoves': WHATEVER THE INPUT: true; the input reads as it did. -/
def memMovesSpec : ChangeSpec := { name := "memMoves", fn := fun _ => fun
  | [d1, d2, d3, d4, d5] => { results := [.lit (.bool true)], args := [d1, d2, d3, d4, d5] }
  | _ => none }
def memMovesRow : OpenClaim := { program := "ytipflebjooanpaa", sum := "4fa0a763d26936454a411df0b2362b12fb7cf1e684cfe7598ef1129c9ff38b15", func := "tenterhook/tenterhooklaw03.MemMoves", spec := "memMoves", apart := false }
def MemMovesSaid : Prop := memMovesRow.holds Try.pinned (OpenSpec.ofChange memMovesSpec)

/-- ITS FALSE NEIGHBOUR: 'it returns false'. Refute it at one input. -/
def memMovesWrong : ChangeSpec := { name := "memMoves", fn := fun _ => fun
  | [d1, d2, d3, d4, d5] => { results := [.lit (.bool false)], args := [d1, d2, d3, d4, d5] }
  | _ => none }
def MemMovesWrongFalsely : Prop := memMovesRow.holds Try.pinned (OpenSpec.ofChange memMovesWrong)

/-- 'tenterhooklaw03.MemSwaps': WHATEVER THE INPUT: true; the input reads as it did. -/
def memSwapsSpec : ChangeSpec := { name := "memSwaps", fn := fun _ => fun
  | [d1, d2, d3, d4] => { results := [.lit (.bool true)], args := [d1, d2, d3, d4] }
  | _ => none }
def memSwapsRow : OpenClaim := { program := "ytipflebjooanpaa", sum := "4fa0a763d26936454a411df0b2362b12fb7cf1e684cfe7598ef1129c9ff38b15", func := "tenterhook/tenterhooklaw03.MemSwaps", spec := "memSwaps", apart := false }
def MemSwapsSaid : Prop := memSwapsRow.holds Try.pinned (OpenSpec.ofChange memSwapsSpec)

/-- ITS FALSE NEIGHBOUR: 'it returns false'. Refute it at one input. -/
def memSwapsWrong : ChangeSpec := { name := "memSwaps", fn := fun _ => fun
  | [d1, d2, d3, d4] => { results := [.lit (.bool false)], args := [d1, d2, d3, d4] }
  | _ => none }
def MemSwapsWrongFalsely : Prop := memSwapsRow.holds Try.pinned (OpenSpec.ofChange memSwapsWrong)

/-- 'tenterhooklaw12.GuardWrites': WHATEVER THE INPUT: true; the input reads as it did. -/
def guardWritesSpec : ChangeSpec := { name := "guardWrites", fn := fun _ => fun
  | [d1, d2, d3, d4, d5] => { results := [.lit (.bool true)], args := [d1, d2, d3, d4, d5] }
  | _ => none }
def guardWritesRow : OpenClaim := { program := "ytipflebjooanpaa", sum := "4fa0a763d26936454a411df0b2362b12fb7cf1e684cfe7598ef1129c9ff38b15", func := "tenterhook/tenterhooklaw12.GuardWrites", spec := "guardWrites", apart := false }
def GuardWritesSaid : Prop := guardWritesRow.holds Try.pinned (OpenSpec.ofChange guardWritesSpec)

/-- ITS FALSE NEIGHBOUR: 'it returns false'. Refute it at one input. -/
def guardWritesWrong : ChangeSpec := { name := "guardWrites", fn := fun _ => fun
  | [d1, d2, d3, d4, d5] => { results := [.lit (.bool false)], args := [d1, d2, d3, d4, d5] }
  | _ => none }
def GuardWritesWrongFalsely : Prop := guardWritesRow.holds Try.pinned (OpenSpec.ofChange guardWritesWrong)

/-- 'tenterhooklaw12.GuardIs': WHATEVER THE INPUT: true; the input reads as it did. -/
def guardIsSpec : ChangeSpec := { name := "guardIs", fn := fun _ => fun
  | [d1, d2, d3, d4, d5, d6] => { results := [.lit (.bool true)], args := [d1, d2, d3, d4, d5, d6] }
  | _ => none }
def guardIsRow : OpenClaim := { program := "ytipflebjooanpaa", sum := "4fa0a763d26936454a411df0b2362b12fb7cf1e684cfe7598ef1129c9ff38b15", func := "tenterhook/tenterhooklaw12.GuardIs", spec := "guardIs", apart := false }
def GuardIsSaid : Prop := guardIsRow.holds Try.pinned (OpenSpec.ofChange guardIsSpec)

/-- ITS FALSE NEIGHBOUR: 'it returns false'. Refute it at one input. -/
def guardIsWrong : ChangeSpec := { name := "guardIs", fn := fun _ => fun
  | [d1, d2, d3, d4, d5, d6] => { results := [.lit (.bool false)], args := [d1, d2, d3, d4, d5, d6] }
  | _ => none }
def GuardIsWrongFalsely : Prop := guardIsRow.holds Try.pinned (OpenSpec.ofChange guardIsWrong)

/-- 'tenterhooklaw03.MemBack': WHATEVER THE INPUT: true; the input reads as it did. -/
def memBackSpec : ChangeSpec := { name := "memBack", fn := fun _ => fun
  | [d1, d2, d3, d4] => { results := [.lit (.bool true)], args := [d1, d2, d3, d4] }
  | _ => none }
def memBackRow : OpenClaim := { program := "ytipflebjooanpaa", sum := "4fa0a763d26936454a411df0b2362b12fb7cf1e684cfe7598ef1129c9ff38b15", func := "tenterhook/tenterhooklaw03.MemBack", spec := "memBack", inPlace := ["internal/bytealg.MakeNoZero"], apart := false }
def MemBackSaid : Prop := memBackRow.holds Try.pinned (OpenSpec.ofChange memBackSpec)

/-- ITS FALSE NEIGHBOUR: 'it returns false'. Refute it at one input. -/
def memBackWrong : ChangeSpec := { name := "memBack", fn := fun _ => fun
  | [d1, d2, d3, d4] => { results := [.lit (.bool false)], args := [d1, d2, d3, d4] }
  | _ => none }
def MemBackWrongFalsely : Prop := memBackRow.holds Try.pinned (OpenSpec.ofChange memBackWrong)

/-- 'tenterhooklaw03.MemParts': WHATEVER THE INPUT: true; the input reads as it did. -/
def memPartsSpec : ChangeSpec := { name := "memParts", fn := fun _ => fun
  | [d1, d2, d3] => { results := [.lit (.bool true)], args := [d1, d2, d3] }
  | _ => none }
def memPartsRow : OpenClaim := { program := "ytipflebjooanpaa", sum := "4fa0a763d26936454a411df0b2362b12fb7cf1e684cfe7598ef1129c9ff38b15", func := "tenterhook/tenterhooklaw03.MemParts", spec := "memParts", inPlace := ["internal/bytealg.MakeNoZero"], apart := false }
def MemPartsSaid : Prop := memPartsRow.holds Try.pinned (OpenSpec.ofChange memPartsSpec)

/-- ITS FALSE NEIGHBOUR: 'it returns false'. Refute it at one input. -/
def memPartsWrong : ChangeSpec := { name := "memParts", fn := fun _ => fun
  | [d1, d2, d3] => { results := [.lit (.bool false)], args := [d1, d2, d3] }
  | _ => none }
def MemPartsWrongFalsely : Prop := memPartsRow.holds Try.pinned (OpenSpec.ofChange memPartsWrong)

/-- 'tenterhooklaw03.MemFills': WHATEVER THE INPUT: true; the input reads as it did. -/
def memFillsSpec : ChangeSpec := { name := "memFills", fn := fun _ => fun
  | [d1, d2, d3, d4, d5] => { results := [.lit (.bool true)], args := [d1, d2, d3, d4, d5] }
  | _ => none }
def memFillsRow : OpenClaim := { program := "ytipflebjooanpaa", sum := "4fa0a763d26936454a411df0b2362b12fb7cf1e684cfe7598ef1129c9ff38b15", func := "tenterhook/tenterhooklaw03.MemFills", spec := "memFills", inPlace := ["internal/bytealg.MakeNoZero"], apart := false }
def MemFillsSaid : Prop := memFillsRow.holds Try.pinned (OpenSpec.ofChange memFillsSpec)

/-- ITS FALSE NEIGHBOUR: 'it returns false'. Refute it at one input. -/
def memFillsWrong : ChangeSpec := { name := "memFills", fn := fun _ => fun
  | [d1, d2, d3, d4, d5] => { results := [.lit (.bool false)], args := [d1, d2, d3, d4, d5] }
  | _ => none }
def MemFillsWrongFalsely : Prop := memFillsRow.holds Try.pinned (OpenSpec.ofChange memFillsWrong)

/- THE SECOND FORM. 'bulk': how many values and letters a reading holds, each counted each time it is reached (what is shared counts as often as it is met; a slice's spare places count too). A statement '..UptoSaid' is the law's where the arguments, and the package variables that the reading takes, are together of bulk at most 1048576: NARROWER than '..Said'. Prove '..Said' where nothing that the law and all that it calls make is longer than what came in: it says more and counts as full. Else prove '..UptoSaid'. A law counts once. -/
mutual
def uptoBulk {H : Type} : DataW H → Nat
  | .lit (.string bytes) => bytes.length + 1
  | .lit _ => 1
  | .nil => 1
  | .ptr d => uptoBulk d + 1
  | .slice elems spare => uptoBulkAll elems + uptoBulkAll spare + 1
  | .agg parts => uptoBulkAll parts + 1
  | .iface _ d => uptoBulk d + 1
  | .map entries => uptoBulkEntries entries + 1
  | .held _ => 1
def uptoBulkAll {H : Type} : List (DataW H) → Nat
  | [] => 0
  | d :: r => uptoBulk d + uptoBulkAll r
def uptoBulkEntries {H : Type} : List (Lit × DataW H) → Nat
  | [] => 0
  | x :: r => uptoBulkEntry x + uptoBulkEntries r
def uptoBulkEntry {H : Type} : Lit × DataW H → Nat
  | (.string bytes, d) => bytes.length + uptoBulk d + 1
  | (_, d) => uptoBulk d + 1
 end
def uptoSmall : (H : Type) → List (DataW H) → Bool := fun _ ds => decide (uptoBulkAll ds ≤ 1048576)
def OpenSpec.upto (s : _root_.Go.ChangeSpec) : _root_.Go.OpenSpec := { _root_.Go.OpenSpec.ofChange s with cond := some uptoSmall }

/-- 'tenterhooklaw03.MemRows', WHERE WHAT IT READS IS OF BULK AT MOST 1048576: true; the input reads as it did. -/
def memRowsUptoRow : OpenClaim := { program := "ytipflebjooanpaa", sum := "4fa0a763d26936454a411df0b2362b12fb7cf1e684cfe7598ef1129c9ff38b15", func := "tenterhook/tenterhooklaw03.MemRows", spec := "memRows", inPlace := ["internal/bytealg.MakeNoZero"], apart := false, narrowed := true }
def MemRowsUptoSaid : Prop := memRowsUptoRow.holds Try.pinned (OpenSpec.upto memRowsSpec)

/-- 'tenterhooklaw03.MemIs', WHERE WHAT IT READS IS OF BULK AT MOST 1048576: true; the input reads as it did. -/
def memIsUptoRow : OpenClaim := { program := "ytipflebjooanpaa", sum := "4fa0a763d26936454a411df0b2362b12fb7cf1e684cfe7598ef1129c9ff38b15", func := "tenterhook/tenterhooklaw03.MemIs", spec := "memIs", inPlace := ["internal/bytealg.MakeNoZero"], apart := false, narrowed := true }
def MemIsUptoSaid : Prop := memIsUptoRow.holds Try.pinned (OpenSpec.upto memIsSpec)

/-- 'tenterhooklaw12.GuardParts', WHERE WHAT IT READS IS OF BULK AT MOST 1048576: true; the input reads as it did. -/
def guardPartsUptoRow : OpenClaim := { program := "ytipflebjooanpaa", sum := "4fa0a763d26936454a411df0b2362b12fb7cf1e684cfe7598ef1129c9ff38b15", func := "tenterhook/tenterhooklaw12.GuardParts", spec := "guardParts", apart := false, narrowed := true }
def GuardPartsUptoSaid : Prop := guardPartsUptoRow.holds Try.pinned (OpenSpec.upto guardPartsSpec)

/-- 'tenterhooklaw12.GuardHost', WHERE WHAT IT READS IS OF BULK AT MOST 1048576: true; the input reads as it did. -/
def guardHostUptoRow : OpenClaim := { program := "ytipflebjooanpaa", sum := "4fa0a763d26936454a411df0b2362b12fb7cf1e684cfe7598ef1129c9ff38b15", func := "tenterhook/tenterhooklaw12.GuardHost", spec := "guardHost", apart := false, narrowed := true }
def GuardHostUptoSaid : Prop := guardHostUptoRow.holds Try.pinned (OpenSpec.upto guardHostSpec)

/-- 'tenterhooklaw12.GuardApart', WHERE WHAT IT READS IS OF BULK AT MOST 1048576: true; the input reads as it did. -/
def guardApartUptoRow : OpenClaim := { program := "ytipflebjooanpaa", sum := "4fa0a763d26936454a411df0b2362b12fb7cf1e684cfe7598ef1129c9ff38b15", func := "tenterhook/tenterhooklaw12.GuardApart", spec := "guardApart", apart := false, narrowed := true }
def GuardApartUptoSaid : Prop := guardApartUptoRow.holds Try.pinned (OpenSpec.upto guardApartSpec)

/-- 'tenterhooklaw12.GuardRegions', WHERE WHAT IT READS IS OF BULK AT MOST 1048576: true; the input reads as it did. -/
def guardRegionsUptoRow : OpenClaim := { program := "ytipflebjooanpaa", sum := "4fa0a763d26936454a411df0b2362b12fb7cf1e684cfe7598ef1129c9ff38b15", func := "tenterhook/tenterhooklaw12.GuardRegions", spec := "guardRegions", apart := false, narrowed := true }
def GuardRegionsUptoSaid : Prop := guardRegionsUptoRow.holds Try.pinned (OpenSpec.upto guardRegionsSpec)

/-- 'tenterhooklaw03.MemMoves', WHERE WHAT IT READS IS OF BULK AT MOST 1048576: true; the input reads as it did. -/
def memMovesUptoRow : OpenClaim := { program := "ytipflebjooanpaa", sum := "4fa0a763d26936454a411df0b2362b12fb7cf1e684cfe7598ef1129c9ff38b15", func := "tenterhook/tenterhooklaw03.MemMoves", spec := "memMoves", apart := false, narrowed := true }
def MemMovesUptoSaid : Prop := memMovesUptoRow.holds Try.pinned (OpenSpec.upto memMovesSpec)

/-- 'tenterhooklaw03.MemSwaps', WHERE WHAT IT READS IS OF BULK AT MOST 1048576: true; the input reads as it did. -/
def memSwapsUptoRow : OpenClaim := { program := "ytipflebjooanpaa", sum := "4fa0a763d26936454a411df0b2362b12fb7cf1e684cfe7598ef1129c9ff38b15", func := "tenterhook/tenterhooklaw03.MemSwaps", spec := "memSwaps", apart := false, narrowed := true }
def MemSwapsUptoSaid : Prop := memSwapsUptoRow.holds Try.pinned (OpenSpec.upto memSwapsSpec)

/-- 'tenterhooklaw12.GuardWrites', WHERE WHAT IT READS IS OF BULK AT MOST 1048576: true; the input reads as it did. -/
def guardWritesUptoRow : OpenClaim := { program := "ytipflebjooanpaa", sum := "4fa0a763d26936454a411df0b2362b12fb7cf1e684cfe7598ef1129c9ff38b15", func := "tenterhook/tenterhooklaw12.GuardWrites", spec := "guardWrites", apart := false, narrowed := true }
def GuardWritesUptoSaid : Prop := guardWritesUptoRow.holds Try.pinned (OpenSpec.upto guardWritesSpec)

/-- 'tenterhooklaw12.GuardIs', WHERE WHAT IT READS IS OF BULK AT MOST 1048576: true; the input reads as it did. -/
def guardIsUptoRow : OpenClaim := { program := "ytipflebjooanpaa", sum := "4fa0a763d26936454a411df0b2362b12fb7cf1e684cfe7598ef1129c9ff38b15", func := "tenterhook/tenterhooklaw12.GuardIs", spec := "guardIs", apart := false, narrowed := true }
def GuardIsUptoSaid : Prop := guardIsUptoRow.holds Try.pinned (OpenSpec.upto guardIsSpec)

/-- 'tenterhooklaw03.MemBack', WHERE WHAT IT READS IS OF BULK AT MOST 1048576: true; the input reads as it did. -/
def memBackUptoRow : OpenClaim := { program := "ytipflebjooanpaa", sum := "4fa0a763d26936454a411df0b2362b12fb7cf1e684cfe7598ef1129c9ff38b15", func := "tenterhook/tenterhooklaw03.MemBack", spec := "memBack", inPlace := ["internal/bytealg.MakeNoZero"], apart := false, narrowed := true }
def MemBackUptoSaid : Prop := memBackUptoRow.holds Try.pinned (OpenSpec.upto memBackSpec)

/-- 'tenterhooklaw03.MemParts', WHERE WHAT IT READS IS OF BULK AT MOST 1048576: true; the input reads as it did. -/
def memPartsUptoRow : OpenClaim := { program := "ytipflebjooanpaa", sum := "4fa0a763d26936454a411df0b2362b12fb7cf1e684cfe7598ef1129c9ff38b15", func := "tenterhook/tenterhooklaw03.MemParts", spec := "memParts", inPlace := ["internal/bytealg.MakeNoZero"], apart := false, narrowed := true }
def MemPartsUptoSaid : Prop := memPartsUptoRow.holds Try.pinned (OpenSpec.upto memPartsSpec)

/-- 'tenterhooklaw03.MemFills', WHERE WHAT IT READS IS OF BULK AT MOST 1048576: true; the input reads as it did. -/
def memFillsUptoRow : OpenClaim := { program := "ytipflebjooanpaa", sum := "4fa0a763d26936454a411df0b2362b12fb7cf1e684cfe7598ef1129c9ff38b15", func := "tenterhook/tenterhooklaw03.MemFills", spec := "memFills", inPlace := ["internal/bytealg.MakeNoZero"], apart := false, narrowed := true }
def MemFillsUptoSaid : Prop := memFillsUptoRow.holds Try.pinned (OpenSpec.upto memFillsSpec)

end Rows
end Go.Proofs.Ytipflebjooanpaa
