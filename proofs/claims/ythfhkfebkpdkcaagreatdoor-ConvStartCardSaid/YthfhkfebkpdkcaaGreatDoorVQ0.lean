/- Plain functions for Go functions of the program, each with a proof that the Go call comes to it (no condition but those that each theorem names). Written by a program of this session. -/
import Derived.Test.YthfhkfebkpdkcaaGreatDoorProg
import Derived.Below
import Derived.Deep.Draws
import Derived.Deep.AppendLies
import Derived.Maps.AppendAt
import Derived.OwnWalk
import Derived.Laws.BytesArg
import Derived.Laws.MakeOwn
import Derived.Laws.OwnMore
import Derived.Deep.OwnRows
import Derived.Tactics
import Derived.Lib.ConvBytes
import Derived.Laws.Slices
import Derived.WalkKit
import Derived.KernelRfl
import Derived.RowKit3
import Derived.Deep.LoopGhost
import Derived.Deep.QuietTactic
import Derived.BigQuiet
import Derived.WideLaws
import Derived.Deep.DeepCutAuto
import Derived.Deep.CutBlock
import Derived.Deep.RegionHeld3
import Derived.Laws.Rows
import Derived.Lib.AppendStr
import Derived.ArgAppend
import Derived.Laws.IdiomCopy
import Derived.OrdersHeld
import Derived.Laws.BitsLemmas
import Derived.RowKit
import Derived.Test.YthfhkfebkpdkcaaGreatDoorVLaid
import Derived.Test.YthfhkfebkpdkcaaGreatDoorVWWords
import Derived.Test.YthfhkfebkpdkcaaGreatDoorVWLast
import Derived.Test.YthfhkfebkpdkcaaGreatDoorVWTab
import Derived.Test.YthfhkfebkpdkcaaGreatDoorVWFour
import Derived.Test.YthfhkfebkpdkcaaGreatDoorVWQPut
import Derived.Test.YthfhkfebkpdkcaaGreatDoorVWApart
import Derived.Test.YthfhkfebkpdkcaaGreatDoorVWArr
import Derived.Test.YthfhkfebkpdkcaaGreatDoorVWZeros
import Derived.Test.YthfhkfebkpdkcaaGreatDoorVWFoot
import Derived.Test.YthfhkfebkpdkcaaGreatDoorVWKept
import Derived.Test.YthfhkfebkpdkcaaGreatDoorVWShare
import Derived.Test.YthfhkfebkpdkcaaGreatDoorVWN
import Derived.Test.YthfhkfebkpdkcaaGreatDoorVWFootNe
import Derived.Test.YthfhkfebkpdkcaaGreatDoorVWAt
import Derived.Test.YthfhkfebkpdkcaaGreatDoorVWEqStruct
import Derived.Test.YthfhkfebkpdkcaaGreatDoorVWRepsOne
import Derived.Test.YthfhkfebkpdkcaaGreatDoorVWInv
import Derived.Test.YthfhkfebkpdkcaaGreatDoorVWInvWords
import Derived.Test.YthfhkfebkpdkcaaGreatDoorVWGuard
import Derived.Test.YthfhkfebkpdkcaaGreatDoorVWNEv
import Derived.Test.YthfhkfebkpdkcaaGreatDoorVWMore
namespace Go.Proofs.YthfhkfebkpdkcaaGreatDoor.Q
open Go.RowKit Go.Proofs.YthfhkfebkpdkcaaGreatDoorW.PrintWords Go.Proofs.YthfhkfebkpdkcaaGreatDoorW.PrintLast Go.Proofs.YthfhkfebkpdkcaaGreatDoorW.PrintMore
set_option linter.unusedVariables false
set_option linter.unusedSimpArgs false



def errW : Option Int → Value
  | none => .nilIface
  | some c => .iface 0 (.int .i64 c)
theorem errW_none : errW none = .nilIface := rfl
theorem errW_some (c : Int) : errW (some c) = .iface 0 (.int .i64 c) := rfl

-- the values' own types

end Go.Proofs.YthfhkfebkpdkcaaGreatDoor.Q
