/- seal.marked answers the mark of all entries, for every world. -/
import Derived.Test.YtpmebnkjcekmmaaGreatDoorSea
import Derived.Test.YtpmebnkjcekmmaaGreatDoorT1
namespace Go.Proofs.YtpmebnkjcekmmaaGreatDoor
open Go.RowKit Go.Lib Go.Proofs.YtpmebnkjcekmmaaGreatDoorW.PrintWords
set_option linter.unusedVariables false
set_option linter.unusedSimpArgs false

/-! ### The mark of all entries -/
theorem markOf : T.seal_Of.f 600 allEnts = some 6763645315271308339 := by kernel_rfl
set_option maxRecDepth 100000 in
theorem marked_any (w : World) : Calls Tryz.prog 44 #[] w fun e w' => e = .returned (.int .u64 6763645315271308339) ∧ Below w.heap.size w w' := by
  have HM := Lib.hid markOf
  go_enter Tryz.func44, Tryz.ntmps44
  go_wp2_with fail
  refine (allentries_any _).mono ?_
  rintro e w1 ⟨g, rfl, hg, hh, hb⟩
  have HC := Lib.hid (Kd.R_reads' (all_own (Nat.zero_le _) hh)).2.2
  clear hh
  go_wp2_with fail
  refine (T.seal_Of.calls 600 (some ⟨g, 0, none⟩) 36 allEnts _ _ HC.out (by decide) HM.out).mono ?_
  rintro e w2 ⟨rfl, hb2⟩
  go_wp2
  go_ret
  exact ⟨rfl, below_then hb hb.size hb2⟩
def seal_marked.f : Option Int := some 6763645315271308339
theorem seal_marked.calls (r : Int) (w : World) (h : seal_marked.f = some r) : Calls Tryz.prog 44 #[] w fun e w' => e = .returned (.int .u64 r) ∧ Below w.heap.size w w' := by
  obtain rfl := Option.some.inj h
  exact marked_any w
end Go.Proofs.YtpmebnkjcekmmaaGreatDoor
