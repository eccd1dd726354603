/- What the calls into strconv ask of the world, and that it stays where no old block has turned; no condition. -/
import Derived.Test.YthfhkfebkpdkcaaGreatDoorProg
import Derived.Below
import Derived.Lib.LaidTab
import Derived.Lib.ItoaMem
namespace Go.Proofs.YthfhkfebkpdkcaaGreatDoor
open Go.RowKit

/-- What the calls into strconv ask of the world: its table of powers, and an error in ErrRange. -/
structure Laid (w : World) : Prop where
  pow : Lib.TabIs Tryz.prog w "internal/strconv.uint64pow10" .u64 Lib.pow10Tab
  rng : ∃ tp p, World.var? Tryz.prog w "strconv.ErrRange" = some #[.iface tp p]

theorem var_below {w w' : World} (h : Below w.heap.size w w') {n : String} {cs : Array Value} (hv : World.var? Tryz.prog w n = some cs) : World.var? Tryz.prog w' n = some cs := by
  unfold World.var? at hv ⊢
  cases hg : (Tryz.prog).globalNamed n with
  | none => simp [hg] at hv
  | some g =>
    simp only [hg, Option.bind_some] at hv ⊢
    have hlt : g < w.heap.size := by
      rcases Nat.lt_or_ge g w.heap.size with h' | h'
      · exact h'
      · simp [Array.getElem?_eq_none h'] at hv
    rw [h.block g hlt]
    exact hv

theorem laid_below {w w' : World} (h : Laid w) (hb : Below w.heap.size w w') : Laid w' := by
  obtain ⟨hp, tp, p, hr⟩ := h
  exact ⟨var_below hb hp, tp, p, var_below hb hr⟩
end Go.Proofs.YthfhkfebkpdkcaaGreatDoor
