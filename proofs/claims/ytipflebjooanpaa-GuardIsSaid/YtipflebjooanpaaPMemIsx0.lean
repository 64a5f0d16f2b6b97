-- PRINTED BY print.sh 35421559b90ae4d0a3588c463048766b98c2df88dd9212a6774a882060cdf62d: not written by this session
import Derived.Test.YtipflebjooanpaaProg
import Derived.Below
import Derived.Deep.Draws
import Derived.Deep.AppendLies
import Derived.Maps.AppendAt
import Derived.OwnWalk
import Derived.Laws.BytesArg
import Derived.Laws.MakeOwn
import Derived.Laws.OwnMore
import Derived.Deep.OwnRows
import Derived.Tactics
import Derived.Lib.ConvBytes
import Derived.Laws.Slices
import Derived.WalkKit
import Derived.KernelRfl
import Derived.RowKit3
import Derived.Deep.LoopGhost
import Derived.Deep.QuietTactic
import Derived.BigQuiet
import Derived.WideLaws
import Derived.Deep.DeepCutAuto
import Derived.Deep.CutBlock
import Derived.Deep.RegionHeld3
import Derived.Laws.Rows
import Derived.Lib.AppendStr
import Derived.ArgAppend
import Derived.Laws.IdiomCopy
import Derived.OrdersHeld
import Derived.Laws.BitsLemmas
import Derived.RowKit
import Derived.Test.YtipflebjooanpaaWWords
import Derived.Test.YtipflebjooanpaaWLast
import Derived.Test.YtipflebjooanpaaWTab
import Derived.Test.YtipflebjooanpaaWFour
import Derived.Test.YtipflebjooanpaaWQPut
import Derived.Test.YtipflebjooanpaaWApart
import Derived.Test.YtipflebjooanpaaWArr
import Derived.Test.YtipflebjooanpaaWZeros
import Derived.Test.YtipflebjooanpaaWFoot
import Derived.Test.YtipflebjooanpaaWKept
import Derived.Test.YtipflebjooanpaaWShare
import Derived.Test.YtipflebjooanpaaWN
import Derived.Test.YtipflebjooanpaaWFootNe
import Derived.Test.YtipflebjooanpaaWAt
import Derived.Test.YtipflebjooanpaaWEqStruct
import Derived.Test.YtipflebjooanpaaWRepsOne
import Derived.Test.YtipflebjooanpaaWInv
import Derived.Test.YtipflebjooanpaaWInvWords
import Derived.Test.YtipflebjooanpaaWGuard
import Derived.Test.YtipflebjooanpaaWNEv
import Derived.Test.YtipflebjooanpaaWMore
namespace Go.Proofs.Ytipflebjooanpaa.PMemIs
open Go.RowKit Go.Proofs.YtipflebjooanpaaW.PrintWords Go.Proofs.YtipflebjooanpaaW.PrintLast Go.Proofs.YtipflebjooanpaaW.PrintMore
attribute [local go_sem] max2_int min2_int max_two min_two max_three min_three max_four min_four   -- for this text's walks alone
set_option linter.unusedVariables false
set_option linter.unusedSimpArgs false



def errW : Option Int → Value
  | none => .nilIface
  | some c => .iface 0 (.int .i64 c)
theorem errW_none : errW none = .nilIface := rfl
theorem errW_some (c : Int) : errW (some c) = .iface 0 (.int .i64 c) := rfl

theorem info5 : (Try.prog.info? 5).map (fun i => (i.zero, i.size, i.bytes)) = some (some (.int .u8 0), 1, 1) := by kernel_rfl
-- the values' own types

end Go.Proofs.Ytipflebjooanpaa.PMemIs
