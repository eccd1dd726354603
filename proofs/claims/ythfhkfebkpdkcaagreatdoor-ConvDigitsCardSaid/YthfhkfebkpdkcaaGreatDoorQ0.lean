/- Plain functions for Go functions of the program, each with a proof that the Go call comes to it (no condition but those that each theorem names). Written by a program of this session. -/
import Derived.Test.YthfhkfebkpdkcaaGreatDoorProg
import Derived.Below
import Derived.Deep.Draws
import Derived.Deep.AppendLies
import Derived.Maps.AppendAt
import Derived.OwnWalk
import Derived.Laws.BytesArg
import Derived.Laws.MakeOwn
import Derived.Laws.OwnMore
import Derived.Deep.OwnRows
import Derived.Tactics
import Derived.Lib.ConvBytes
import Derived.Laws.Slices
import Derived.WalkKit
import Derived.KernelRfl
import Derived.RowKit3
import Derived.Deep.LoopGhost
import Derived.Deep.QuietTactic
import Derived.BigQuiet
import Derived.WideLaws
import Derived.Deep.DeepCutAuto
import Derived.Deep.CutBlock
import Derived.Deep.RegionHeld3
import Derived.Laws.Rows
import Derived.Lib.AppendStr
import Derived.ArgAppend
import Derived.Laws.IdiomCopy
import Derived.OrdersHeld
import Derived.Laws.BitsLemmas
import Derived.RowKit
import Derived.Test.YthfhkfebkpdkcaaGreatDoorLaid
import Derived.Test.YthfhkfebkpdkcaaGreatDoorWWords
import Derived.Test.YthfhkfebkpdkcaaGreatDoorWLast
import Derived.Test.YthfhkfebkpdkcaaGreatDoorWTab
import Derived.Test.YthfhkfebkpdkcaaGreatDoorWFour
import Derived.Test.YthfhkfebkpdkcaaGreatDoorWQPut
import Derived.Test.YthfhkfebkpdkcaaGreatDoorWApart
import Derived.Test.YthfhkfebkpdkcaaGreatDoorWArr
import Derived.Test.YthfhkfebkpdkcaaGreatDoorWZeros
import Derived.Test.YthfhkfebkpdkcaaGreatDoorWFoot
import Derived.Test.YthfhkfebkpdkcaaGreatDoorWKept
import Derived.Test.YthfhkfebkpdkcaaGreatDoorWShare
import Derived.Test.YthfhkfebkpdkcaaGreatDoorWN
import Derived.Test.YthfhkfebkpdkcaaGreatDoorWFootNe
import Derived.Test.YthfhkfebkpdkcaaGreatDoorWAt
import Derived.Test.YthfhkfebkpdkcaaGreatDoorWEqStruct
import Derived.Test.YthfhkfebkpdkcaaGreatDoorWRepsOne
import Derived.Test.YthfhkfebkpdkcaaGreatDoorWInv
import Derived.Test.YthfhkfebkpdkcaaGreatDoorWInvWords
import Derived.Test.YthfhkfebkpdkcaaGreatDoorWGuard
import Derived.Test.YthfhkfebkpdkcaaGreatDoorWNEv
import Derived.Test.YthfhkfebkpdkcaaGreatDoorWMore
namespace Go.Proofs.YthfhkfebkpdkcaaGreatDoor.Q
open Go.RowKit Go.Proofs.YthfhkfebkpdkcaaGreatDoorW.PrintWords Go.Proofs.YthfhkfebkpdkcaaGreatDoorW.PrintLast Go.Proofs.YthfhkfebkpdkcaaGreatDoorW.PrintMore
attribute [local go_sem] max2_int min2_int max_two min_two max_three min_three max_four min_four   -- for this text's walks alone
set_option linter.unusedVariables false
set_option linter.unusedSimpArgs false



def errW : Option Int → Value
  | none => .nilIface
  | some c => .iface 0 (.int .i64 c)
theorem errW_none : errW none = .nilIface := rfl
theorem errW_some (c : Int) : errW (some c) = .iface 0 (.int .i64 c) := rfl

-- the values' own types

end Go.Proofs.YthfhkfebkpdkcaaGreatDoor.Q
