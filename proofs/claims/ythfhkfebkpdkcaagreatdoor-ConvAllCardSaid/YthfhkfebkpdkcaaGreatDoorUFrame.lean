/- What a row of this seat lists makes the world laid; a world for the witnesses; no condition. -/
import Derived.Test.YthfhkfebkpdkcaaGreatDoorCards
import Derived.Test.YthfhkfebkpdkcaaGreatDoorTie
import Derived.Test.YthfhkfebkpdkcaaGreatDoorULaid
import Derived.WalkKit
import Derived.ProofKit
import Derived.OpenShut
import Derived.LaidMore
import Derived.Lay
import Derived.Deep.DeepHandedRow
import Derived.Lib.LaidTab
import Derived.SevenTiedAt
namespace Go.Proofs.YthfhkfebkpdkcaaGreatDoor
open Go.ChangeShapes Go.WideShapes Go.ChangeAt Go.RowKit

theorem own : ownKnob Tryz.prog.godebug = none := by kernel_rfl
abbrev laidL : List (String × DataW Unit) := Rows.convRisesRow.laid
theorem gPow : Tryz.prog.globalNamed "internal/strconv.uint64pow10" = some 0 := by kernel_rfl
theorem tPow : (Tryz.prog.globals[0]?).map (·.type) = some 119 := by kernel_rfl
theorem gRange : Tryz.prog.globalNamed "strconv.ErrRange" = some 2 := by kernel_rfl
theorem tRange : (Tryz.prog.globals[2]?).map (·.type) = some 86 := by kernel_rfl
theorem laid_of {W : World} (h : laidMetH Tryz.prog laidL W) : Laid W := by
  rw [MakeChecks.laidMetH_plain _ _ _ (by kernel_rfl)] at h
  obtain ⟨ps, h, _⟩ := h
  obtain ⟨g0, t0, cs0, f0, p0, q0, hg0, ht0, hv0, hd0, h, _⟩ := h
  obtain ⟨g1, t1, cs1, f1, p1, q1, hg1, ht1, hv1, hd1, h, _⟩ := h
  obtain ⟨g2, t2, cs2, f2, p2, q2, hg2, ht2, hv2, hd2, h, _⟩ := h
  obtain ⟨g3, t3, cs3, f3, p3, q3, hg3, ht3, hv3, hd3, h, _⟩ := h
  obtain ⟨g4, t4, cs4, f4, p4, q4, hg4, ht4, hv4, hd4, h, _⟩ := h
  obtain rfl := Option.some.inj (gPow.symm.trans hg2)
  obtain rfl := Option.some.inj (tPow.symm.trans ht2)
  obtain rfl := Option.some.inj (gRange.symm.trans hg4)
  obtain rfl := Option.some.inj (tRange.symm.trans ht4)
  constructor
  · unfold Lib.TabIs
    rw [hv2, ← Lib.cells_of_tab Tryz.underlying119 Tryz.underlying25 (by kernel_rfl) (by kernel_rfl) hd2]
  · have key : ∃ tp p, cs4.toList = [Value.iface tp p] := by
      cases f4 with
      | zero => simp [DataW.trod] at hd4
      | succ f4 =>
        simp only [DataW.trod, Tryz.underlying86] at hd4
        revert hd4
        generalize cs4.toList = l
        intro hd4
        match l with
        | [] => simp at hd4
        | [v] =>
          cases v with
          | iface tp p => exact ⟨tp, p, rfl⟩
          | nilIface => simp [Rows.laid_strconv_ErrRange] at hd4
          | _ => simp at hd4
        | _ :: _ :: _ => simp at hd4
    obtain ⟨tp, p, hk⟩ := key
    exact ⟨tp, p, by rw [hv4, ← Array.toArray_toList (xs := cs4), hk]⟩

/-- A WORLD FOR THE WITNESSES: what the row lists, laid. -/
noncomputable def laidW (os : Os) : World := World.laidAll Tryz.prog os laidL
theorem laid_met (os : Os) (args : Array Value) : laidMet Tryz.prog laidL ((laidW os).forCall (fun _ _ => 0) ⟨#[], args, []⟩).memory :=
  laidMet_laidAll args (by kernel_rfl) (by kernel_rfl)
end Go.Proofs.YthfhkfebkpdkcaaGreatDoor
