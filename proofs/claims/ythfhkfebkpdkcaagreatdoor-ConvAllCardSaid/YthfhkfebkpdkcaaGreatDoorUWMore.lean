-- PRINTED BY print.sh 35421559b90ae4d0a3588c463048766b98c2df88dd9212a6774a882060cdf62d: not written by this session
-- PRINTED WORDS (module Derived/Print/More.lean): go-gate-2's additions: an AI agent of Go's test side, Tue Nov 17 2026; no person has read it. Lean checks it.
import Derived.Test.YthfhkfebkpdkcaaGreatDoorUWWords
import Derived.Test.YthfhkfebkpdkcaaGreatDoorUWLast
import Derived.Test.YthfhkfebkpdkcaaGreatDoorUWQPut
import Derived.Test.YthfhkfebkpdkcaaGreatDoorUWApart
import Derived.Test.YthfhkfebkpdkcaaGreatDoorUWZeros
import Derived.Test.YthfhkfebkpdkcaaGreatDoorUWFoot
import Derived.Test.YthfhkfebkpdkcaaGreatDoorUWKept
import Derived.Test.YthfhkfebkpdkcaaGreatDoorUWNEv
namespace Go.Proofs.YthfhkfebkpdkcaaGreatDoorW.PrintMore
open Go.RowKit Go.Proofs.YthfhkfebkpdkcaaGreatDoorW.PrintWords
namespace Kd
open Go.Proofs.YthfhkfebkpdkcaaGreatDoorW.PrintWords.Kd
end Kd

namespace Kd
open Go.Proofs.YthfhkfebkpdkcaaGreatDoorW.PrintWords.Kd
end Kd
end Go.Proofs.YthfhkfebkpdkcaaGreatDoorW.PrintMore
namespace Go.Proofs.YthfhkfebkpdkcaaGreatDoorW.PrintWords
open Go.RowKit
section
variable {P : Program} {ops : Array Oper} {rest : List Oper} {o : Oper} {a : Act} {Q : Exit → Act → World → Prop} {W : World}
/-- The operation is a call of this function (a cheap look ahead of a dear step). -/
theorem gate_callee {f : FuncId} {as : Array Operand} {ts : Array TypeId} (_ho : o.op = .call { callee := .value (.func f), args := as, argTypes := ts }) (h : wpList P ops Q (o :: rest) a W) : wpList P ops Q (o :: rest) a W := h
end
/-- It says x = x, and that is its use: 'rw [drewN_self w]' fails where the world was not drawn, and the row behind it is skipped. -/
theorem drewN_self (w : World) (n : Nat) : w.drewN n = w.drewN n := rfl
namespace Kd
end Kd
end Go.Proofs.YthfhkfebkpdkcaaGreatDoorW.PrintWords
namespace Go.Proofs.YthfhkfebkpdkcaaGreatDoorW.PrintWords
open Go.RowKit
namespace Kd
end Kd
end Go.Proofs.YthfhkfebkpdkcaaGreatDoorW.PrintWords
