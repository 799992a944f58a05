-- PRINTED BY print.sh 35421559b90ae4d0a3588c463048766b98c2df88dd9212a6774a882060cdf62d: not written by this session
import Derived.Test.YtofmingbmcinhaaDoorProg
import Derived.Below
import Derived.Deep.Draws
import Derived.Deep.AppendLies
import Derived.Maps.AppendAt
import Derived.OwnWalk
import Derived.Laws.BytesArg
import Derived.Laws.MakeOwn
import Derived.Laws.OwnMore
import Derived.Deep.OwnRows
import Derived.Tactics
import Derived.Lib.ConvBytes
import Derived.Laws.Slices
import Derived.WalkKit
import Derived.KernelRfl
import Derived.RowKit3
import Derived.Deep.LoopGhost
import Derived.Deep.QuietTactic
import Derived.BigQuiet
import Derived.WideLaws
import Derived.Deep.DeepCutAuto
import Derived.Deep.CutBlock
import Derived.Deep.RegionHeld3
import Derived.Laws.Rows
import Derived.Lib.AppendStr
import Derived.ArgAppend
import Derived.Laws.IdiomCopy
import Derived.OrdersHeld
import Derived.Laws.BitsLemmas
import Derived.RowKit
import Derived.Test.YtofmingbmcinhaaDoorWWords
import Derived.Test.YtofmingbmcinhaaDoorWLast
import Derived.Test.YtofmingbmcinhaaDoorWTab
import Derived.Test.YtofmingbmcinhaaDoorWFour
import Derived.Test.YtofmingbmcinhaaDoorWQPut
import Derived.Test.YtofmingbmcinhaaDoorWApart
import Derived.Test.YtofmingbmcinhaaDoorWArr
import Derived.Test.YtofmingbmcinhaaDoorWZeros
import Derived.Test.YtofmingbmcinhaaDoorWFoot
import Derived.Test.YtofmingbmcinhaaDoorWKept
import Derived.Test.YtofmingbmcinhaaDoorWShare
import Derived.Test.YtofmingbmcinhaaDoorWN
import Derived.Test.YtofmingbmcinhaaDoorWFootNe
import Derived.Test.YtofmingbmcinhaaDoorWAt
import Derived.Test.YtofmingbmcinhaaDoorWEqStruct
import Derived.Test.YtofmingbmcinhaaDoorWRepsOne
import Derived.Test.YtofmingbmcinhaaDoorWInv
import Derived.Test.YtofmingbmcinhaaDoorWInvWords
import Derived.Test.YtofmingbmcinhaaDoorWGuard
import Derived.Test.YtofmingbmcinhaaDoorWNEv
import Derived.Test.YtofmingbmcinhaaDoorWMore
namespace Go.Proofs.YtofmingbmcinhaaDoor.PGroundPlays
open Go.RowKit Go.Proofs.YtofmingbmcinhaaDoorW.PrintWords Go.Proofs.YtofmingbmcinhaaDoorW.PrintLast Go.Proofs.YtofmingbmcinhaaDoorW.PrintMore
attribute [local go_sem] max2_int min2_int max_two min_two max_three min_three max_four min_four   -- for this text's walks alone
set_option linter.unusedVariables false
set_option linter.unusedSimpArgs false



def errW : Option Int → Value
  | none => .nilIface
  | some c => .iface 0 (.int .i64 c)
theorem errW_none : errW none = .nilIface := rfl
theorem errW_some (c : Int) : errW (some c) = .iface 0 (.int .i64 c) := rfl

theorem info2 : (Tryd.prog.info? 2).map (fun i => (i.zero, i.size, i.bytes)) = some (some (.int .i64 0), 1, 8) := by kernel_rfl
theorem info61 : (Tryd.prog.info? 61).map (fun i => (i.zero, i.size, i.bytes)) = some (some (.int .u64 0), 1, 8) := by kernel_rfl
-- the values' own types

end Go.Proofs.YtofmingbmcinhaaDoor.PGroundPlays
