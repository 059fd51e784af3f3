-- PRINTED BY print.sh 35421559b90ae4d0a3588c463048766b98c2df88dd9212a6774a882060cdf62d: not written by this session
import Derived.Test.YtacplkanjhjbpaaProg
import Derived.Below
import Derived.Deep.Draws
import Derived.Deep.AppendLies
import Derived.Maps.AppendAt
import Derived.OwnWalk
import Derived.Laws.BytesArg
import Derived.Laws.MakeOwn
import Derived.Laws.OwnMore
import Derived.Deep.OwnRows
import Derived.Tactics
import Derived.Lib.ConvBytes
import Derived.Laws.Slices
import Derived.WalkKit
import Derived.KernelRfl
import Derived.RowKit3
import Derived.Deep.LoopGhost
import Derived.Deep.QuietTactic
import Derived.BigQuiet
import Derived.WideLaws
import Derived.Deep.DeepCutAuto
import Derived.Deep.CutBlock
import Derived.Deep.RegionHeld3
import Derived.Laws.Rows
import Derived.Lib.AppendStr
import Derived.ArgAppend
import Derived.Laws.IdiomCopy
import Derived.OrdersHeld
import Derived.Laws.BitsLemmas
import Derived.RowKit
import Derived.Test.YtacplkanjhjbpaaWWords
import Derived.Test.YtacplkanjhjbpaaWLast
import Derived.Test.YtacplkanjhjbpaaWTab
import Derived.Test.YtacplkanjhjbpaaWFour
import Derived.Test.YtacplkanjhjbpaaWQPut
import Derived.Test.YtacplkanjhjbpaaWApart
import Derived.Test.YtacplkanjhjbpaaWArr
import Derived.Test.YtacplkanjhjbpaaWZeros
import Derived.Test.YtacplkanjhjbpaaWFoot
import Derived.Test.YtacplkanjhjbpaaWKept
import Derived.Test.YtacplkanjhjbpaaWShare
import Derived.Test.YtacplkanjhjbpaaWN
import Derived.Test.YtacplkanjhjbpaaWFootNe
import Derived.Test.YtacplkanjhjbpaaWAt
import Derived.Test.YtacplkanjhjbpaaWEqStruct
import Derived.Test.YtacplkanjhjbpaaWRepsOne
import Derived.Test.YtacplkanjhjbpaaWInv
import Derived.Test.YtacplkanjhjbpaaWInvWords
import Derived.Test.YtacplkanjhjbpaaWGuard
import Derived.Test.YtacplkanjhjbpaaWNEv
import Derived.Test.YtacplkanjhjbpaaWMore
namespace Go.Proofs.Ytacplkanjhjbpaa.PClassChooses
open Go.RowKit Go.Proofs.YtacplkanjhjbpaaW.PrintWords Go.Proofs.YtacplkanjhjbpaaW.PrintLast Go.Proofs.YtacplkanjhjbpaaW.PrintMore
attribute [local go_sem] max2_int min2_int max_two min_two max_three min_three max_four min_four   -- for this text's walks alone
set_option linter.unusedVariables false
set_option linter.unusedSimpArgs false



def errW : Option Int → Value
  | none => .nilIface
  | some c => .iface 0 (.int .i64 c)
theorem errW_none : errW none = .nilIface := rfl
theorem errW_some (c : Int) : errW (some c) = .iface 0 (.int .i64 c) := rfl

theorem info3 : (Try.prog.info? 3).map (fun i => (i.zero, i.size, i.bytes)) = some (some (.int .i64 0), 1, 8) := by kernel_rfl
-- the values' own types

end Go.Proofs.Ytacplkanjhjbpaa.PClassChooses
