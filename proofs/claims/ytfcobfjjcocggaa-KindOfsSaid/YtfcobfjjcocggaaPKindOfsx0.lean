-- PRINTED BY print.sh 35421559b90ae4d0a3588c463048766b98c2df88dd9212a6774a882060cdf62d: not written by this session
import Derived.Test.YtfcobfjjcocggaaProg
import Derived.Below
import Derived.Deep.Draws
import Derived.Deep.AppendLies
import Derived.Maps.AppendAt
import Derived.OwnWalk
import Derived.Laws.BytesArg
import Derived.Laws.MakeOwn
import Derived.Laws.OwnMore
import Derived.Deep.OwnRows
import Derived.Tactics
import Derived.Lib.ConvBytes
import Derived.Laws.Slices
import Derived.WalkKit
import Derived.KernelRfl
import Derived.RowKit3
import Derived.Deep.LoopGhost
import Derived.Deep.QuietTactic
import Derived.BigQuiet
import Derived.WideLaws
import Derived.Deep.DeepCutAuto
import Derived.Deep.CutBlock
import Derived.Deep.RegionHeld3
import Derived.Laws.Rows
import Derived.Lib.AppendStr
import Derived.ArgAppend
import Derived.Laws.IdiomCopy
import Derived.OrdersHeld
import Derived.Laws.BitsLemmas
import Derived.RowKit
import Derived.Test.YtfcobfjjcocggaaWWords
import Derived.Test.YtfcobfjjcocggaaWLast
import Derived.Test.YtfcobfjjcocggaaWTab
import Derived.Test.YtfcobfjjcocggaaWFour
import Derived.Test.YtfcobfjjcocggaaWQPut
import Derived.Test.YtfcobfjjcocggaaWApart
import Derived.Test.YtfcobfjjcocggaaWArr
import Derived.Test.YtfcobfjjcocggaaWZeros
import Derived.Test.YtfcobfjjcocggaaWFoot
import Derived.Test.YtfcobfjjcocggaaWKept
import Derived.Test.YtfcobfjjcocggaaWShare
import Derived.Test.YtfcobfjjcocggaaWN
import Derived.Test.YtfcobfjjcocggaaWFootNe
import Derived.Test.YtfcobfjjcocggaaWAt
import Derived.Test.YtfcobfjjcocggaaWEqStruct
import Derived.Test.YtfcobfjjcocggaaWRepsOne
import Derived.Test.YtfcobfjjcocggaaWInv
import Derived.Test.YtfcobfjjcocggaaWInvWords
import Derived.Test.YtfcobfjjcocggaaWGuard
import Derived.Test.YtfcobfjjcocggaaWNEv
import Derived.Test.YtfcobfjjcocggaaWMore
namespace Go.Proofs.Ytfcobfjjcocggaa.PKindOfs
open Go.RowKit Go.Proofs.YtfcobfjjcocggaaW.PrintWords Go.Proofs.YtfcobfjjcocggaaW.PrintLast Go.Proofs.YtfcobfjjcocggaaW.PrintMore
attribute [local go_sem] max2_int min2_int max_two min_two max_three min_three max_four min_four   -- for this text's walks alone
set_option linter.unusedVariables false
set_option linter.unusedSimpArgs false



def errW : Option Int → Value
  | none => .nilIface
  | some c => .iface 0 (.int .i64 c)
theorem errW_none : errW none = .nilIface := rfl
theorem errW_some (c : Int) : errW (some c) = .iface 0 (.int .i64 c) := rfl

theorem info21 : (Try.prog.info? 21).map (fun i => (i.zero, i.size, i.bytes)) = some (some (.int .i32 0), 1, 4) := by kernel_rfl
-- the values' own types

end Go.Proofs.Ytfcobfjjcocggaa.PKindOfs
