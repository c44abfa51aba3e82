-- PRINTED BY print.sh 35421559b90ae4d0a3588c463048766b98c2df88dd9212a6774a882060cdf62d: not written by this session
import Derived.Test.YtdmlpcbmmdddbaaProg
import Derived.Below
import Derived.Deep.Draws
import Derived.Deep.AppendLies
import Derived.Maps.AppendAt
import Derived.OwnWalk
import Derived.Laws.BytesArg
import Derived.Laws.MakeOwn
import Derived.Laws.OwnMore
import Derived.Deep.OwnRows
import Derived.Tactics
import Derived.Lib.ConvBytes
import Derived.Laws.Slices
import Derived.WalkKit
import Derived.KernelRfl
import Derived.RowKit3
import Derived.Deep.LoopGhost
import Derived.Deep.QuietTactic
import Derived.BigQuiet
import Derived.WideLaws
import Derived.Deep.DeepCutAuto
import Derived.Deep.CutBlock
import Derived.Deep.RegionHeld3
import Derived.Laws.Rows
import Derived.Lib.AppendStr
import Derived.ArgAppend
import Derived.Laws.IdiomCopy
import Derived.OrdersHeld
import Derived.Laws.BitsLemmas
import Derived.RowKit
import Derived.Test.YtdmlpcbmmdddbaaWWords
import Derived.Test.YtdmlpcbmmdddbaaWLast
import Derived.Test.YtdmlpcbmmdddbaaWTab
import Derived.Test.YtdmlpcbmmdddbaaWFour
import Derived.Test.YtdmlpcbmmdddbaaWQPut
import Derived.Test.YtdmlpcbmmdddbaaWApart
import Derived.Test.YtdmlpcbmmdddbaaWArr
import Derived.Test.YtdmlpcbmmdddbaaWZeros
import Derived.Test.YtdmlpcbmmdddbaaWFoot
import Derived.Test.YtdmlpcbmmdddbaaWKept
import Derived.Test.YtdmlpcbmmdddbaaWShare
import Derived.Test.YtdmlpcbmmdddbaaWN
import Derived.Test.YtdmlpcbmmdddbaaWFootNe
import Derived.Test.YtdmlpcbmmdddbaaWAt
import Derived.Test.YtdmlpcbmmdddbaaWEqStruct
import Derived.Test.YtdmlpcbmmdddbaaWRepsOne
import Derived.Test.YtdmlpcbmmdddbaaWInv
import Derived.Test.YtdmlpcbmmdddbaaWInvWords
import Derived.Test.YtdmlpcbmmdddbaaWGuard
import Derived.Test.YtdmlpcbmmdddbaaWNEv
import Derived.Test.YtdmlpcbmmdddbaaWMore
namespace Go.Proofs.Ytdmlpcbmmdddbaa.PBpduBack
open Go.RowKit Go.Proofs.YtdmlpcbmmdddbaaW.PrintWords Go.Proofs.YtdmlpcbmmdddbaaW.PrintLast Go.Proofs.YtdmlpcbmmdddbaaW.PrintMore
attribute [local go_sem] max2_int min2_int max_two min_two max_three min_three max_four min_four   -- for this text's walks alone
set_option linter.unusedVariables false
set_option linter.unusedSimpArgs false



def errW : Option Int → Value
  | none => .nilIface
  | some c => .iface 0 (.int .i64 c)
theorem errW_none : errW none = .nilIface := rfl
theorem errW_some (c : Int) : errW (some c) = .iface 0 (.int .i64 c) := rfl

theorem info5 : (Try.prog.info? 5).map (fun i => (i.zero, i.size, i.bytes)) = some (some (.int .u8 0), 1, 1) := by kernel_rfl
-- the values' own types

end Go.Proofs.Ytdmlpcbmmdddbaa.PBpduBack
