/- conv.Entries, in the form of the printed texts, for every world. -/
import Derived.Test.YthfhkfebkpdkcaaGreatDoorVEnt
import Derived.Test.YthfhkfebkpdkcaaGreatDoorVS0
namespace Go.Proofs.YthfhkfebkpdkcaaGreatDoor
open Go.RowKit Go.Lib Go.Proofs.YthfhkfebkpdkcaaGreatDoorW.PrintWords
set_option linter.unusedVariables false
set_option linter.unusedSimpArgs false

/-! ### conv.Entries, in the print's form -/
def convEnts : List S.S59 := convEs.map fun e => ⟨e.1, e.2.1, e.2.2.1, e.2.2.2⟩
def conv_Entries.f : Option (List S.S59) := some convEnts
theorem fill_at (j : Nat) (p : S.S59) (h : convEnts[j]? = some p) : ((fillL convEs 12).toList.drop (j * 4)).take 4 = [.int .i64 p.f0, .int .i64 p.f1, .string p.f2, .int .i64 p.f3] := by
  have hj : j < 12 := by
    have := (List.getElem?_eq_some_iff.1 h).1
    simpa [convEnts, convEs] using this
  match j, hj with
  | 0, _ | 1, _ | 2, _ | 3, _ | 4, _ | 5, _ | 6, _ | 7, _ | 8, _ | 9, _ | 10, _ | 11, _ => cases h; rfl
theorem fill_own {w : World} {g base : Nat} (hg : base ≤ g) (h : w.heap[g]? = some (.cells (fillL convEs 12) 74 (0, 0))) : Kd.R S.k59 74 w base (fun _ => True) (.slice (some ⟨g, 0, none⟩) 12 12) convEnts := by
  refine ⟨fun _ _ => trivial, (fillL convEs 12).toList, ⟨by kernel_rfl, .inr ⟨g, 12, fillL convEs 12, rfl, hg, h, by decide, by decide, by kernel_rfl, by kernel_rfl⟩⟩, ⟨by kernel_rfl, fun j p hp => ?_⟩⟩
  have e := fill_at j p hp
  show Kd.M S.k59 w base _ p (((fillL convEs 12).toList.drop (j * 4)).take 4)
  rw [e]
  exact S.k59_mkM w base _ p
theorem conv_Entries.calls (r : List S.S59) (w : World) (h : conv_Entries.f = some r) :
    Calls Tryz.prog 36 #[] w fun e w' => ∃ v0_ : Value, e = .returned (v0_) ∧ Kd.R S.k59 74 w' w.heap.size (fun _ => True) v0_ r ∧ Below w.heap.size w w' := by
  obtain rfl := Option.some.inj h
  refine (centries_any w).mono ?_
  rintro e w' ⟨g, rfl, hg, hh, hb⟩
  exact ⟨_, rfl, fill_own hg hh, hb⟩
end Go.Proofs.YthfhkfebkpdkcaaGreatDoor
