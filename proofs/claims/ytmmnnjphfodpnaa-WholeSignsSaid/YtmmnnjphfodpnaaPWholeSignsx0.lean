/- What the functions that this law reaches answer, in whatever memory, and the row of the law; no condition. Written by a program of this session (mk.sh). -/
import Derived.Test.YtmmnnjphfodpnaaProg
import Derived.Below
import Derived.Deep.Draws
import Derived.Deep.AppendLies
import Derived.Maps.AppendAt
import Derived.OwnWalk
import Derived.Laws.BytesArg
import Derived.Laws.MakeOwn
import Derived.Laws.OwnMore
import Derived.Deep.OwnRows
import Derived.Tactics
import Derived.Lib.ConvBytes
import Derived.Laws.Slices
import Derived.WalkKit
import Derived.KernelRfl
import Derived.RowKit3
import Derived.Deep.LoopGhost
import Derived.Deep.QuietTactic
import Derived.BigQuiet
import Derived.WideLaws
import Derived.Deep.DeepCutAuto
import Derived.Deep.CutBlock
import Derived.Deep.RegionHeld3
import Derived.Laws.Rows
import Derived.Lib.AppendStr
import Derived.ArgAppend
import Derived.Laws.IdiomCopy
import Derived.OrdersHeld
import Derived.Laws.BitsLemmas
import Derived.RowKit
import Derived.Test.YtmmnnjphfodpnaaWWords
import Derived.Test.YtmmnnjphfodpnaaWLast
import Derived.Test.YtmmnnjphfodpnaaWTab
import Derived.Test.YtmmnnjphfodpnaaWFour
import Derived.Test.YtmmnnjphfodpnaaWQPut
import Derived.Test.YtmmnnjphfodpnaaWApart
import Derived.Test.YtmmnnjphfodpnaaWArr
import Derived.Test.YtmmnnjphfodpnaaWZeros
import Derived.Test.YtmmnnjphfodpnaaWFoot
import Derived.Test.YtmmnnjphfodpnaaWKept
import Derived.Test.YtmmnnjphfodpnaaWShare
import Derived.Test.YtmmnnjphfodpnaaWN
import Derived.Test.YtmmnnjphfodpnaaWFootNe
import Derived.Test.YtmmnnjphfodpnaaWAt
import Derived.Test.YtmmnnjphfodpnaaWEqStruct
import Derived.Test.YtmmnnjphfodpnaaWRepsOne
import Derived.Test.YtmmnnjphfodpnaaWInv
import Derived.Test.YtmmnnjphfodpnaaWInvWords
import Derived.Test.YtmmnnjphfodpnaaWGuard
import Derived.Test.YtmmnnjphfodpnaaWNEv
import Derived.Test.YtmmnnjphfodpnaaWMore
namespace Go.Proofs.Ytmmnnjphfodpnaa.PWholeSigns
open Go.RowKit Go.Proofs.YtmmnnjphfodpnaaW.PrintWords Go.Proofs.YtmmnnjphfodpnaaW.PrintLast Go.Proofs.YtmmnnjphfodpnaaW.PrintMore
attribute [local go_sem] max2_int min2_int max_two min_two max_three min_three max_four min_four   -- for this text's walks alone
set_option linter.unusedVariables false
set_option linter.unusedSimpArgs false



def errW : Option Int → Value
  | none => .nilIface
  | some c => .iface 0 (.int .i64 c)
theorem errW_none : errW none = .nilIface := rfl
theorem errW_some (c : Int) : errW (some c) = .iface 0 (.int .i64 c) := rfl

theorem info3 : (Try.prog.info? 3).map (fun i => (i.zero, i.size, i.bytes)) = some (some (.int .i64 0), 1, 8) := by kernel_rfl
-- the values' own types

end Go.Proofs.Ytmmnnjphfodpnaa.PWholeSigns
