/- Plain functions for Go functions of the program, each with a proof that the Go call comes to it (no condition but those that each theorem names). Written by a program of this session. -/
import Derived.Test.YthfhkfebkpdkcaaGreatDoorProg
import Derived.Below
import Derived.Deep.Draws
import Derived.Deep.AppendLies
import Derived.Maps.AppendAt
import Derived.OwnWalk
import Derived.Laws.BytesArg
import Derived.Laws.MakeOwn
import Derived.Laws.OwnMore
import Derived.Deep.OwnRows
import Derived.Tactics
import Derived.Lib.ConvBytes
import Derived.Laws.Slices
import Derived.WalkKit
import Derived.KernelRfl
import Derived.RowKit3
import Derived.Deep.LoopGhost
import Derived.Deep.QuietTactic
import Derived.BigQuiet
import Derived.WideLaws
import Derived.Deep.DeepCutAuto
import Derived.Deep.CutBlock
import Derived.Deep.RegionHeld3
import Derived.Laws.Rows
import Derived.Lib.AppendStr
import Derived.ArgAppend
import Derived.Laws.IdiomCopy
import Derived.OrdersHeld
import Derived.Laws.BitsLemmas
import Derived.RowKit
import Derived.Test.YthfhkfebkpdkcaaGreatDoorULaid
import Derived.Test.YthfhkfebkpdkcaaGreatDoorUWWords
import Derived.Test.YthfhkfebkpdkcaaGreatDoorUWLast
import Derived.Test.YthfhkfebkpdkcaaGreatDoorUWTab
import Derived.Test.YthfhkfebkpdkcaaGreatDoorUWFour
import Derived.Test.YthfhkfebkpdkcaaGreatDoorUWQPut
import Derived.Test.YthfhkfebkpdkcaaGreatDoorUWApart
import Derived.Test.YthfhkfebkpdkcaaGreatDoorUWArr
import Derived.Test.YthfhkfebkpdkcaaGreatDoorUWZeros
import Derived.Test.YthfhkfebkpdkcaaGreatDoorUWFoot
import Derived.Test.YthfhkfebkpdkcaaGreatDoorUWKept
import Derived.Test.YthfhkfebkpdkcaaGreatDoorUWShare
import Derived.Test.YthfhkfebkpdkcaaGreatDoorUWN
import Derived.Test.YthfhkfebkpdkcaaGreatDoorUWFootNe
import Derived.Test.YthfhkfebkpdkcaaGreatDoorUWAt
import Derived.Test.YthfhkfebkpdkcaaGreatDoorUWEqStruct
import Derived.Test.YthfhkfebkpdkcaaGreatDoorUWRepsOne
import Derived.Test.YthfhkfebkpdkcaaGreatDoorUWInv
import Derived.Test.YthfhkfebkpdkcaaGreatDoorUWInvWords
import Derived.Test.YthfhkfebkpdkcaaGreatDoorUWGuard
import Derived.Test.YthfhkfebkpdkcaaGreatDoorUWNEv
import Derived.Test.YthfhkfebkpdkcaaGreatDoorUWMore
namespace Go.Proofs.YthfhkfebkpdkcaaGreatDoor.Q
open Go.RowKit Go.Proofs.YthfhkfebkpdkcaaGreatDoorW.PrintWords Go.Proofs.YthfhkfebkpdkcaaGreatDoorW.PrintLast Go.Proofs.YthfhkfebkpdkcaaGreatDoorW.PrintMore
set_option linter.unusedVariables false
set_option linter.unusedSimpArgs false



def errW : Option Int → Value
  | none => .nilIface
  | some c => .iface 0 (.int .i64 c)
theorem errW_none : errW none = .nilIface := rfl
theorem errW_some (c : Int) : errW (some c) = .iface 0 (.int .i64 c) := rfl

-- the values' own types

end Go.Proofs.YthfhkfebkpdkcaaGreatDoor.Q
