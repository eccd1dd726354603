/- Plain functions for Go functions of the program, each with a proof that the Go call comes to it (no condition but those that each theorem names). Written by a program of this session. -/
import Derived.Test.YthfhkfebkpdkcaaGreatDoorQ0
import Derived.Test.YthfhkfebkpdkcaaGreatDoorQ1
import Derived.Test.YthfhkfebkpdkcaaGreatDoorQ2
namespace Go.Proofs.YthfhkfebkpdkcaaGreatDoor.Q
open Go.RowKit Go.Proofs.YthfhkfebkpdkcaaGreatDoorW.PrintWords Go.Proofs.YthfhkfebkpdkcaaGreatDoorW.PrintLast Go.Proofs.YthfhkfebkpdkcaaGreatDoorW.PrintMore
attribute [local go_sem] max2_int min2_int max_two min_two max_three min_three max_four min_four   -- for this text's walks alone
set_option linter.unusedVariables false
set_option linter.unusedSimpArgs false

end Go.Proofs.YthfhkfebkpdkcaaGreatDoor.Q
