/-
  No cell of these rows narrows 'for every input' (looked for: loops, veiled, ifaces, maps, wideKeys, modest, calm, conditions, laid).
  DERIVED. THE GIVEN ROWS OF THIS SEAT. 7 by the template 'for every input the law returns true; each argument reads behind the call as it read before'; 0 by the template 'total and deterministic' (their statements: YtmgijoanhgdlbaaTotals.lean).
  GIVEN WITH THE SEED: the statements are not yours to turn. If you find one false, say at which input.
  Laid BY PROGRAM, IN A SANDBOX (cutbox-rows.mjs): the forced cells as the released guide's own fill.sh prints them over the translation 22eaedebf945a4ac… (all of the seat's roots in one cut). By AI agents, Wed Nov 11 2026. No macro, syntax, notation, axiom, sorry.
-/
import Derived.Test.YtmgijoanhgdlbaaChecked
import GoSem.Claim
import GoSem.ClaimJoined
import GoSem.ClaimMapViews
import Derived.JoinedTies
import Derived.KernelRfl
namespace Go.Proofs.Ytmgijoanhgdlbaa
/- THE CELL 'sum', in the pinned program and in every row, IS THE sha256 OF THE DUMP (.gsa) THAT YtmgijoanhgdlbaaProg.lean LOADS. Nothing in Lean hashes anything: it is a label: what it is worth is what the hold of that sum in a sandbox is worth. -/
noncomputable def Try.pinned : Pinned := { name := "ytmgijoanhgdlbaa", sum := "22eaedebf945a4ac4f48662df43f768a8c8c0c910a2a402ab45133e8c525aed4", checked := Try.checked }
namespace Rows
def none {H : Type} : Left H := { results := [], args := [] }

/-- 'tenterhooklaw01.CellDivides': WHATEVER THE INPUT: true; the input reads as it did. -/
def cellDividesSpec : ChangeSpec := { name := "cellDivides", fn := fun _ => fun
  | [d1, d2] => { results := [.lit (.bool true)], args := [d1, d2] }
  | _ => none }
def cellDividesRow : OpenClaim := { program := "ytmgijoanhgdlbaa", sum := "22eaedebf945a4ac4f48662df43f768a8c8c0c910a2a402ab45133e8c525aed4", func := "tenterhook/tenterhooklaw01.CellDivides", spec := "cellDivides", apart := false }
def CellDividesSaid : Prop := cellDividesRow.holds Try.pinned (OpenSpec.ofChange cellDividesSpec)

/-- ITS FALSE NEIGHBOUR: 'it returns false'. Refute it at one input. -/
def cellDividesWrong : ChangeSpec := { name := "cellDivides", fn := fun _ => fun
  | [d1, d2] => { results := [.lit (.bool false)], args := [d1, d2] }
  | _ => none }
def CellDividesWrongFalsely : Prop := cellDividesRow.holds Try.pinned (OpenSpec.ofChange cellDividesWrong)

/-- 'tenterhooklaw01.CellSigns': WHATEVER THE INPUT: true; the input reads as it did. -/
def cellSignsSpec : ChangeSpec := { name := "cellSigns", fn := fun _ => fun
  | [d1, d2] => { results := [.lit (.bool true)], args := [d1, d2] }
  | _ => none }
def cellSignsRow : OpenClaim := { program := "ytmgijoanhgdlbaa", sum := "22eaedebf945a4ac4f48662df43f768a8c8c0c910a2a402ab45133e8c525aed4", func := "tenterhook/tenterhooklaw01.CellSigns", spec := "cellSigns", apart := false }
def CellSignsSaid : Prop := cellSignsRow.holds Try.pinned (OpenSpec.ofChange cellSignsSpec)

/-- ITS FALSE NEIGHBOUR: 'it returns false'. Refute it at one input. -/
def cellSignsWrong : ChangeSpec := { name := "cellSigns", fn := fun _ => fun
  | [d1, d2] => { results := [.lit (.bool false)], args := [d1, d2] }
  | _ => none }
def CellSignsWrongFalsely : Prop := cellSignsRow.holds Try.pinned (OpenSpec.ofChange cellSignsWrong)

/-- 'tenterhooklaw01.CellAligned': WHATEVER THE INPUT: true; the input reads as it did. -/
def cellAlignedSpec : ChangeSpec := { name := "cellAligned", fn := fun _ => fun
  | [d] => { results := [.lit (.bool true)], args := [d] }
  | _ => none }
def cellAlignedRow : OpenClaim := { program := "ytmgijoanhgdlbaa", sum := "22eaedebf945a4ac4f48662df43f768a8c8c0c910a2a402ab45133e8c525aed4", func := "tenterhook/tenterhooklaw01.CellAligned", spec := "cellAligned", apart := false }
def CellAlignedSaid : Prop := cellAlignedRow.holds Try.pinned (OpenSpec.ofChange cellAlignedSpec)

/-- ITS FALSE NEIGHBOUR: 'it returns false'. Refute it at one input. -/
def cellAlignedWrong : ChangeSpec := { name := "cellAligned", fn := fun _ => fun
  | [d] => { results := [.lit (.bool false)], args := [d] }
  | _ => none }
def CellAlignedWrongFalsely : Prop := cellAlignedRow.holds Try.pinned (OpenSpec.ofChange cellAlignedWrong)

/-- 'tenterhooklaw01.CellOrder': WHATEVER THE INPUT: true; the input reads as it did. -/
def cellOrderSpec : ChangeSpec := { name := "cellOrder", fn := fun _ => fun
  | [d1, d2, d3] => { results := [.lit (.bool true)], args := [d1, d2, d3] }
  | _ => none }
def cellOrderRow : OpenClaim := { program := "ytmgijoanhgdlbaa", sum := "22eaedebf945a4ac4f48662df43f768a8c8c0c910a2a402ab45133e8c525aed4", func := "tenterhook/tenterhooklaw01.CellOrder", spec := "cellOrder", apart := false }
def CellOrderSaid : Prop := cellOrderRow.holds Try.pinned (OpenSpec.ofChange cellOrderSpec)

/-- ITS FALSE NEIGHBOUR: 'it returns false'. Refute it at one input. -/
def cellOrderWrong : ChangeSpec := { name := "cellOrder", fn := fun _ => fun
  | [d1, d2, d3] => { results := [.lit (.bool false)], args := [d1, d2, d3] }
  | _ => none }
def CellOrderWrongFalsely : Prop := cellOrderRow.holds Try.pinned (OpenSpec.ofChange cellOrderWrong)

/-- 'tenterhooklaw01.CellShifts': WHATEVER THE INPUT: true; the input reads as it did. -/
def cellShiftsSpec : ChangeSpec := { name := "cellShifts", fn := fun _ => fun
  | [d1, d2] => { results := [.lit (.bool true)], args := [d1, d2] }
  | _ => none }
def cellShiftsRow : OpenClaim := { program := "ytmgijoanhgdlbaa", sum := "22eaedebf945a4ac4f48662df43f768a8c8c0c910a2a402ab45133e8c525aed4", func := "tenterhook/tenterhooklaw01.CellShifts", spec := "cellShifts", apart := false }
def CellShiftsSaid : Prop := cellShiftsRow.holds Try.pinned (OpenSpec.ofChange cellShiftsSpec)

/-- ITS FALSE NEIGHBOUR: 'it returns false'. Refute it at one input. -/
def cellShiftsWrong : ChangeSpec := { name := "cellShifts", fn := fun _ => fun
  | [d1, d2] => { results := [.lit (.bool false)], args := [d1, d2] }
  | _ => none }
def CellShiftsWrongFalsely : Prop := cellShiftsRow.holds Try.pinned (OpenSpec.ofChange cellShiftsWrong)

/-- 'tenterhooklaw01.CellNear': WHATEVER THE INPUT: true; the input reads as it did. -/
def cellNearSpec : ChangeSpec := { name := "cellNear", fn := fun _ => fun
  | [d1, d2] => { results := [.lit (.bool true)], args := [d1, d2] }
  | _ => none }
def cellNearRow : OpenClaim := { program := "ytmgijoanhgdlbaa", sum := "22eaedebf945a4ac4f48662df43f768a8c8c0c910a2a402ab45133e8c525aed4", func := "tenterhook/tenterhooklaw01.CellNear", spec := "cellNear", apart := false }
def CellNearSaid : Prop := cellNearRow.holds Try.pinned (OpenSpec.ofChange cellNearSpec)

/-- ITS FALSE NEIGHBOUR: 'it returns false'. Refute it at one input. -/
def cellNearWrong : ChangeSpec := { name := "cellNear", fn := fun _ => fun
  | [d1, d2] => { results := [.lit (.bool false)], args := [d1, d2] }
  | _ => none }
def CellNearWrongFalsely : Prop := cellNearRow.holds Try.pinned (OpenSpec.ofChange cellNearWrong)

/-- 'tenterhooklaw01.CellIs': WHATEVER THE INPUT: true; the input reads as it did. -/
def cellIsSpec : ChangeSpec := { name := "cellIs", fn := fun _ => fun
  | [d1, d2, d3, d4] => { results := [.lit (.bool true)], args := [d1, d2, d3, d4] }
  | _ => none }
def cellIsRow : OpenClaim := { program := "ytmgijoanhgdlbaa", sum := "22eaedebf945a4ac4f48662df43f768a8c8c0c910a2a402ab45133e8c525aed4", func := "tenterhook/tenterhooklaw01.CellIs", spec := "cellIs", apart := false }
def CellIsSaid : Prop := cellIsRow.holds Try.pinned (OpenSpec.ofChange cellIsSpec)

/-- ITS FALSE NEIGHBOUR: 'it returns false'. Refute it at one input. -/
def cellIsWrong : ChangeSpec := { name := "cellIs", fn := fun _ => fun
  | [d1, d2, d3, d4] => { results := [.lit (.bool false)], args := [d1, d2, d3, d4] }
  | _ => none }
def CellIsWrongFalsely : Prop := cellIsRow.holds Try.pinned (OpenSpec.ofChange cellIsWrong)

/- THE SECOND FORM. 'bulk': how many values and letters a reading holds, each counted each time it is reached (what is shared counts as often as it is met; a slice's spare places count too). A statement '..UptoSaid' is the law's where the arguments, and the package variables that the reading takes, are together of bulk at most 1048576: NARROWER than '..Said'. Prove '..Said' where nothing that the law and all that it calls make is longer than what came in: it says more and counts as full. Else prove '..UptoSaid'. A law counts once. -/
mutual
def uptoBulk {H : Type} : DataW H → Nat
  | .lit (.string bytes) => bytes.length + 1
  | .lit _ => 1
  | .nil => 1
  | .ptr d => uptoBulk d + 1
  | .slice elems spare => uptoBulkAll elems + uptoBulkAll spare + 1
  | .agg parts => uptoBulkAll parts + 1
  | .iface _ d => uptoBulk d + 1
  | .map entries => uptoBulkEntries entries + 1
  | .held _ => 1
def uptoBulkAll {H : Type} : List (DataW H) → Nat
  | [] => 0
  | d :: r => uptoBulk d + uptoBulkAll r
def uptoBulkEntries {H : Type} : List (Lit × DataW H) → Nat
  | [] => 0
  | x :: r => uptoBulkEntry x + uptoBulkEntries r
def uptoBulkEntry {H : Type} : Lit × DataW H → Nat
  | (.string bytes, d) => bytes.length + uptoBulk d + 1
  | (_, d) => uptoBulk d + 1
 end
def uptoSmall : (H : Type) → List (DataW H) → Bool := fun _ ds => decide (uptoBulkAll ds ≤ 1048576)
def OpenSpec.upto (s : _root_.Go.ChangeSpec) : _root_.Go.OpenSpec := { _root_.Go.OpenSpec.ofChange s with cond := some uptoSmall }

/-- 'tenterhooklaw01.CellDivides', WHERE WHAT IT READS IS OF BULK AT MOST 1048576: true; the input reads as it did. -/
def cellDividesUptoRow : OpenClaim := { program := "ytmgijoanhgdlbaa", sum := "22eaedebf945a4ac4f48662df43f768a8c8c0c910a2a402ab45133e8c525aed4", func := "tenterhook/tenterhooklaw01.CellDivides", spec := "cellDivides", apart := false, narrowed := true }
def CellDividesUptoSaid : Prop := cellDividesUptoRow.holds Try.pinned (OpenSpec.upto cellDividesSpec)

/-- 'tenterhooklaw01.CellSigns', WHERE WHAT IT READS IS OF BULK AT MOST 1048576: true; the input reads as it did. -/
def cellSignsUptoRow : OpenClaim := { program := "ytmgijoanhgdlbaa", sum := "22eaedebf945a4ac4f48662df43f768a8c8c0c910a2a402ab45133e8c525aed4", func := "tenterhook/tenterhooklaw01.CellSigns", spec := "cellSigns", apart := false, narrowed := true }
def CellSignsUptoSaid : Prop := cellSignsUptoRow.holds Try.pinned (OpenSpec.upto cellSignsSpec)

/-- 'tenterhooklaw01.CellAligned', WHERE WHAT IT READS IS OF BULK AT MOST 1048576: true; the input reads as it did. -/
def cellAlignedUptoRow : OpenClaim := { program := "ytmgijoanhgdlbaa", sum := "22eaedebf945a4ac4f48662df43f768a8c8c0c910a2a402ab45133e8c525aed4", func := "tenterhook/tenterhooklaw01.CellAligned", spec := "cellAligned", apart := false, narrowed := true }
def CellAlignedUptoSaid : Prop := cellAlignedUptoRow.holds Try.pinned (OpenSpec.upto cellAlignedSpec)

/-- 'tenterhooklaw01.CellOrder', WHERE WHAT IT READS IS OF BULK AT MOST 1048576: true; the input reads as it did. -/
def cellOrderUptoRow : OpenClaim := { program := "ytmgijoanhgdlbaa", sum := "22eaedebf945a4ac4f48662df43f768a8c8c0c910a2a402ab45133e8c525aed4", func := "tenterhook/tenterhooklaw01.CellOrder", spec := "cellOrder", apart := false, narrowed := true }
def CellOrderUptoSaid : Prop := cellOrderUptoRow.holds Try.pinned (OpenSpec.upto cellOrderSpec)

/-- 'tenterhooklaw01.CellShifts', WHERE WHAT IT READS IS OF BULK AT MOST 1048576: true; the input reads as it did. -/
def cellShiftsUptoRow : OpenClaim := { program := "ytmgijoanhgdlbaa", sum := "22eaedebf945a4ac4f48662df43f768a8c8c0c910a2a402ab45133e8c525aed4", func := "tenterhook/tenterhooklaw01.CellShifts", spec := "cellShifts", apart := false, narrowed := true }
def CellShiftsUptoSaid : Prop := cellShiftsUptoRow.holds Try.pinned (OpenSpec.upto cellShiftsSpec)

/-- 'tenterhooklaw01.CellNear', WHERE WHAT IT READS IS OF BULK AT MOST 1048576: true; the input reads as it did. -/
def cellNearUptoRow : OpenClaim := { program := "ytmgijoanhgdlbaa", sum := "22eaedebf945a4ac4f48662df43f768a8c8c0c910a2a402ab45133e8c525aed4", func := "tenterhook/tenterhooklaw01.CellNear", spec := "cellNear", apart := false, narrowed := true }
def CellNearUptoSaid : Prop := cellNearUptoRow.holds Try.pinned (OpenSpec.upto cellNearSpec)

/-- 'tenterhooklaw01.CellIs', WHERE WHAT IT READS IS OF BULK AT MOST 1048576: true; the input reads as it did. -/
def cellIsUptoRow : OpenClaim := { program := "ytmgijoanhgdlbaa", sum := "22eaedebf945a4ac4f48662df43f768a8c8c0c910a2a402ab45133e8c525aed4", func := "tenterhook/tenterhooklaw01.CellIs", spec := "cellIs", apart := false, narrowed := true }
def CellIsUptoSaid : Prop := cellIsUptoRow.holds Try.pinned (OpenSpec.upto cellIsSpec)

end Rows
end Go.Proofs.Ytmgijoanhgdlbaa
