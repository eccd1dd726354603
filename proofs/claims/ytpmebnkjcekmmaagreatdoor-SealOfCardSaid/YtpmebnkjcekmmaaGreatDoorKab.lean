/- kind.filled answers the five entries, for every world. kind.Entries and kind.Name answer the five entries and a kind's name, for every world and number. -/
import Derived.Test.YtpmebnkjcekmmaaGreatDoorProg
import Derived.WalkKit
import Derived.WalkSpells
import Derived.Below
import Derived.Handy
import Derived.Laws.Rows
import Derived.Laws.Tables
import Derived.Laws.CopyOwn
import Derived.Laws.ResultCell
import Derived.Outline
namespace Go.Proofs.YtpmebnkjcekmmaaGreatDoor
open Go.RowKit

abbrev namesA : Array Value := #[.string ⟨#[117, 105, 110, 116]⟩, .string ⟨#[105, 110, 116]⟩, .string ⟨#[98, 111, 111, 108]⟩, .string ⟨#[116, 101, 120, 116]⟩, .string ⟨#[98, 121, 116, 101, 115]⟩]
abbrev mostA : Array Value := #[.int .i64 10, .int .i64 10, .int .i64 1, .int .i64 0, .int .i64 0]
/-- kind.filled: the array behind 0 rounds. -/
abbrev fillA0 : Array Value := #[.int .i64 0, .int .i64 0, .string ⟨#[]⟩, .int .i64 0, .int .i64 0, .int .i64 0, .string ⟨#[]⟩, .int .i64 0, .int .i64 0, .int .i64 0, .string ⟨#[]⟩, .int .i64 0, .int .i64 0, .int .i64 0, .string ⟨#[]⟩, .int .i64 0, .int .i64 0, .int .i64 0, .string ⟨#[]⟩, .int .i64 0]
/-- kind.filled: the array behind 1 rounds. -/
abbrev fillA1 : Array Value := #[.int .i64 1, .int .i64 1, .string ⟨#[117, 105, 110, 116]⟩, .int .i64 10, .int .i64 0, .int .i64 0, .string ⟨#[]⟩, .int .i64 0, .int .i64 0, .int .i64 0, .string ⟨#[]⟩, .int .i64 0, .int .i64 0, .int .i64 0, .string ⟨#[]⟩, .int .i64 0, .int .i64 0, .int .i64 0, .string ⟨#[]⟩, .int .i64 0]
/-- kind.filled: the array behind 2 rounds. -/
abbrev fillA2 : Array Value := #[.int .i64 1, .int .i64 1, .string ⟨#[117, 105, 110, 116]⟩, .int .i64 10, .int .i64 1, .int .i64 2, .string ⟨#[105, 110, 116]⟩, .int .i64 10, .int .i64 0, .int .i64 0, .string ⟨#[]⟩, .int .i64 0, .int .i64 0, .int .i64 0, .string ⟨#[]⟩, .int .i64 0, .int .i64 0, .int .i64 0, .string ⟨#[]⟩, .int .i64 0]
/-- kind.filled: the array behind 3 rounds. -/
abbrev fillA3 : Array Value := #[.int .i64 1, .int .i64 1, .string ⟨#[117, 105, 110, 116]⟩, .int .i64 10, .int .i64 1, .int .i64 2, .string ⟨#[105, 110, 116]⟩, .int .i64 10, .int .i64 1, .int .i64 3, .string ⟨#[98, 111, 111, 108]⟩, .int .i64 1, .int .i64 0, .int .i64 0, .string ⟨#[]⟩, .int .i64 0, .int .i64 0, .int .i64 0, .string ⟨#[]⟩, .int .i64 0]
/-- kind.filled: the array behind 4 rounds. -/
abbrev fillA4 : Array Value := #[.int .i64 1, .int .i64 1, .string ⟨#[117, 105, 110, 116]⟩, .int .i64 10, .int .i64 1, .int .i64 2, .string ⟨#[105, 110, 116]⟩, .int .i64 10, .int .i64 1, .int .i64 3, .string ⟨#[98, 111, 111, 108]⟩, .int .i64 1, .int .i64 1, .int .i64 4, .string ⟨#[116, 101, 120, 116]⟩, .int .i64 0, .int .i64 0, .int .i64 0, .string ⟨#[]⟩, .int .i64 0]
/-- kind.filled: the array behind 5 rounds. -/
abbrev fillA5 : Array Value := #[.int .i64 1, .int .i64 1, .string ⟨#[117, 105, 110, 116]⟩, .int .i64 10, .int .i64 1, .int .i64 2, .string ⟨#[105, 110, 116]⟩, .int .i64 10, .int .i64 1, .int .i64 3, .string ⟨#[98, 111, 111, 108]⟩, .int .i64 1, .int .i64 1, .int .i64 4, .string ⟨#[116, 101, 120, 116]⟩, .int .i64 0, .int .i64 1, .int .i64 5, .string ⟨#[98, 121, 116, 101, 115]⟩, .int .i64 0]
abbrev fillW (w : World) (a : Array Value) : World := ((w.alloc (.cells fillA0 72)).alloc (.cells a 72)).alloc (.cells mostA 84)
theorem below3 (w : World) (o1 o2 o3 : Obj) : Below w.heap.size w (((w.alloc o1).alloc o2).alloc o3) :=
  (((Below.refl _ _).alloc (Nat.le_refl _) _).alloc (by simp) _).alloc (by simp; omega) _
def filZ : Array Value := fillA0
def filA : Array Value := fillA5
theorem heap_last (w : World) (o : Obj) : (w.alloc o).heap[w.heap.size]? = some o := by
  show (w.heap.push o)[w.heap.size]? = some o
  simp
theorem heap_a3 (w : World) (o1 o2 o3 : Obj) : (((w.alloc o1).alloc o2).alloc o3).heap[w.heap.size]? = some o1 := by
  rw [Below.heap_alloc _ _ _ (by simp; omega), Below.heap_alloc _ _ _ (by simp), heap_last]
theorem heap_b3 (w : World) (o1 o2 o3 : Obj) : (((w.alloc o1).alloc o2).alloc o3).heap[w.heap.size + 1]? = some o2 := by
  rw [Below.heap_alloc _ _ _ (by simp)]
  have := heap_last (w.alloc o1) o2
  rw [World.size_alloc] at this
  exact this
def FillRel (w : World) (i : Value) (wr : World) : Prop :=
  (i = .int .i64 0 ∧ wr = fillW w fillA0) ∨ (i = .int .i64 1 ∧ wr = fillW w fillA1) ∨ (i = .int .i64 2 ∧ wr = fillW w fillA2) ∨ (i = .int .i64 3 ∧ wr = fillW w fillA3) ∨ (i = .int .i64 4 ∧ wr = fillW w fillA4) ∨ (i = .int .i64 5 ∧ wr = fillW w fillA5)
theorem ix0 (w : World) : (Instr.index 85 (.agg namesA) (.int .i64 0)).run Tryz.prog w = .ok (.string ⟨#[117, 105, 110, 116]⟩) w := by kernel_rfl
theorem ix1 (w : World) : (Instr.index 85 (.agg namesA) (.int .i64 1)).run Tryz.prog w = .ok (.string ⟨#[105, 110, 116]⟩) w := by kernel_rfl
theorem ix2 (w : World) : (Instr.index 85 (.agg namesA) (.int .i64 2)).run Tryz.prog w = .ok (.string ⟨#[98, 111, 111, 108]⟩) w := by kernel_rfl
theorem ix3 (w : World) : (Instr.index 85 (.agg namesA) (.int .i64 3)).run Tryz.prog w = .ok (.string ⟨#[116, 101, 120, 116]⟩) w := by kernel_rfl
theorem ix4 (w : World) : (Instr.index 85 (.agg namesA) (.int .i64 4)).run Tryz.prog w = .ok (.string ⟨#[98, 121, 116, 101, 115]⟩) w := by kernel_rfl
set_option maxRecDepth 100000 in
set_option maxHeartbeats 1000000 in
theorem filled_any (w : World) : Calls Tryz.prog 55 #[] w fun e w' => e = .returned (.agg filA) ∧ Below w.heap.size w w' := by
  have i0 := ix0
  have i1 := ix1
  have i2 := ix2
  have i3 := ix3
  have i4 := ix4
  simp only [namesA] at i0 i1 i2 i3 i4
  go_enter Tryz.func55, Tryz.ntmps55
  go_wp2
  go_loopw [7] (fun i wr => FillRel w i wr) (fun i _ => 5 - (intOf i).toNat)
  case atStart => exact .inl ⟨rfl, rfl⟩
  case round =>
    rcases hrel with ⟨rfl, rfl⟩ | ⟨rfl, rfl⟩ | ⟨rfl, rfl⟩ | ⟨rfl, rfl⟩ | ⟨rfl, rfl⟩ | ⟨rfl, rfl⟩
    · as_aux_lemma =>
      simp only [fillW, mostA, fillA0, fillA0]
      go_wp2
      go_roundw
      case rel => exact .inr (.inl ⟨rfl, rfl⟩)
      case measure => simp [intOf]
    · as_aux_lemma =>
      simp only [fillW, mostA, fillA0, fillA1]
      go_wp2
      go_roundw
      case rel => exact .inr (.inr (.inl ⟨rfl, rfl⟩))
      case measure => simp [intOf]
    · as_aux_lemma =>
      simp only [fillW, mostA, fillA0, fillA2]
      go_wp2
      go_roundw
      case rel => exact .inr (.inr (.inr (.inl ⟨rfl, rfl⟩)))
      case measure => simp [intOf]
    · as_aux_lemma =>
      simp only [fillW, mostA, fillA0, fillA3]
      go_wp2
      go_roundw
      case rel => exact .inr (.inr (.inr (.inr (.inl ⟨rfl, rfl⟩))))
      case measure => simp [intOf]
    · as_aux_lemma =>
      simp only [fillW, mostA, fillA0, fillA4]
      go_wp2
      go_roundw
      case rel => exact .inr (.inr (.inr (.inr (.inr (⟨rfl, rfl⟩)))))
      case measure => simp [intOf]
    · have hA : (fillW w fillA5).heap[w.heap.size]? = some (.cells filZ 72 (0, 0)) := heap_a3 _ _ _ _
      have hB : (fillW w fillA5).heap[w.heap.size + 1]? = some (.cells filA 72 (0, 0)) := heap_b3 _ _ _ _
      have hW : Below w.heap.size w (fillW w fillA5) := below3 _ _ _ _
      clear i0 i1 i2 i3 i4
      generalize fillW w fillA5 = wr at hA hB hW ⊢
      go_wp2_with (first
        | (refine wpList_load_row rfl 72 (.tmp 1) rfl (w.heap.size + 1) rfl 72 filA (0, 0) _ hB Tryz.underlying72 rfl (by kernel_rfl) ?_)
        | (refine wpList_store_row rfl 72 (.tmp 0) (.tmp 21) rfl w.heap.size filA rfl rfl 72 filZ hA (by kernel_rfl) (by kernel_rfl) (by kernel_rfl) ?_))
      exact bodyPost_ret (results_cell_row rfl _ _ w.heap.size 72 filA (0, 0) _ rfl (setRow_heap _ _ _ _ _ _ hA) Tryz.underlying72 rfl (by kernel_rfl)) rfl ⟨rfl, below_setRow hW (Nat.le_refl _) _⟩
end Go.Proofs.YtpmebnkjcekmmaaGreatDoor
namespace Go.Proofs.YtpmebnkjcekmmaaGreatDoor
open Go.RowKit

theorem heap_row (w : World) (c c' : Array Value) (t : TypeId) : ((w.alloc (.cells c t)).setRow w.heap.size c').heap[w.heap.size]? = some (.cells c' t (0, 0)) :=
  setRow_heap _ _ _ _ _ _ (heap_last w _)
theorem below_row {w w1 : World} (h : Below w.heap.size w w1) (o : Obj) (c : Array Value) : Below w.heap.size w ((w1.alloc o).setRow w1.heap.size c) :=
  below_setRow (h.alloc h.size _) h.size _
set_option maxRecDepth 100000 in
set_option maxHeartbeats 1000000 in
/-- kind.Entries: a new row of the five entries. -/
theorem kentries_any (w : World) : Calls Tryz.prog 23 #[] w fun e w' => ∃ g, e = .returned (.slice (some ⟨g, 0, none⟩) 5 5) ∧ w.heap.size ≤ g ∧ w'.heap[g]? = some (.cells filA 72 (0, 0)) ∧ Below w.heap.size w w' := by
  go_enter Tryz.func23, Tryz.ntmps23
  go_wp2_with (first
    | (go_at_call 55; refine (filled_any _).mono ?_; rintro e w1 ⟨rfl, hb⟩; have hA := heap_last w1 (.cells filZ 72))
    | (refine wpList_store_row rfl 72 (.tmp 1) (.tmp 2) rfl w1.heap.size filA rfl rfl 72 filZ hA (by kernel_rfl) (by kernel_rfl) (by kernel_rfl) ?_; have hR := heap_row w1 filZ filA 72; have hB := below_row hb (.cells filZ 72) filA))
  go_ret
  exact ⟨w1.heap.size, rfl, hb.size, hR, hB⟩

theorem ie0 (w : World) : (Instr.index 72 (.agg filA) (.int .i64 0)).run Tryz.prog w = .ok (.agg #[.int .i64 1, .int .i64 1, .string ⟨#[117, 105, 110, 116]⟩, .int .i64 10]) w := by kernel_rfl
theorem ie1 (w : World) : (Instr.index 72 (.agg filA) (.int .i64 1)).run Tryz.prog w = .ok (.agg #[.int .i64 1, .int .i64 2, .string ⟨#[105, 110, 116]⟩, .int .i64 10]) w := by kernel_rfl
theorem ie2 (w : World) : (Instr.index 72 (.agg filA) (.int .i64 2)).run Tryz.prog w = .ok (.agg #[.int .i64 1, .int .i64 3, .string ⟨#[98, 111, 111, 108]⟩, .int .i64 1]) w := by kernel_rfl
theorem ie3 (w : World) : (Instr.index 72 (.agg filA) (.int .i64 3)).run Tryz.prog w = .ok (.agg #[.int .i64 1, .int .i64 4, .string ⟨#[116, 101, 120, 116]⟩, .int .i64 0]) w := by kernel_rfl
theorem ie4 (w : World) : (Instr.index 72 (.agg filA) (.int .i64 4)).run Tryz.prog w = .ok (.agg #[.int .i64 1, .int .i64 5, .string ⟨#[98, 121, 116, 101, 115]⟩, .int .i64 0]) w := by kernel_rfl
/-- A kind's name. -/
def kname (k : Int) : ByteArray := if k = 1 then ⟨#[117, 105, 110, 116]⟩ else if k = 2 then ⟨#[105, 110, 116]⟩ else if k = 3 then ⟨#[98, 111, 111, 108]⟩ else if k = 4 then ⟨#[116, 101, 120, 116]⟩ else if k = 5 then ⟨#[98, 121, 116, 101, 115]⟩ else ⟨#[]⟩
def NameRel (k : Int) (w : World) (i : Value) (wr : World) : Prop :=
  (i = .int .i64 0 ∧ Below w.heap.size w wr) ∨ (i = .int .i64 1 ∧ ((1 : Int) == k) = false ∧ Below w.heap.size w wr) ∨ (i = .int .i64 2 ∧ ((1 : Int) == k) = false ∧ ((2 : Int) == k) = false ∧ Below w.heap.size w wr) ∨ (i = .int .i64 3 ∧ ((1 : Int) == k) = false ∧ ((2 : Int) == k) = false ∧ ((3 : Int) == k) = false ∧ Below w.heap.size w wr) ∨ (i = .int .i64 4 ∧ ((1 : Int) == k) = false ∧ ((2 : Int) == k) = false ∧ ((3 : Int) == k) = false ∧ ((4 : Int) == k) = false ∧ Below w.heap.size w wr) ∨ (i = .int .i64 5 ∧ ((1 : Int) == k) = false ∧ ((2 : Int) == k) = false ∧ ((3 : Int) == k) = false ∧ ((4 : Int) == k) = false ∧ ((5 : Int) == k) = false ∧ Below w.heap.size w wr)
theorem nk {a k : Int} (h : (a == k) = false) : ¬ k = a := fun e => by subst e; simp at h
set_option maxRecDepth 100000 in
set_option maxHeartbeats 1000000 in
theorem kname_any (k : Int) (w : World) : Calls Tryz.prog 69 #[.int .i64 k] w fun e w' => e = .returned (.string (kname k)) ∧ Below w.heap.size w w' := by
  have i0 := ie0
  have i1 := ie1
  have i2 := ie2
  have i3 := ie3
  have i4 := ie4
  go_enter Tryz.func69, Tryz.ntmps69
  go_wp2_with (go_at_call 55; refine (filled_any _).mono ?_; rintro e w1 ⟨rfl, hb⟩)
  go_loopw [6] (fun i wr => NameRel k w i wr) (fun i _ => 5 - (intOf i).toNat)
  case atStart => exact .inl ⟨rfl, hb⟩
  case round =>
    clear hb
    rcases hrel with ⟨rfl, hb⟩ | ⟨rfl, a0, hb⟩ | ⟨rfl, a0, a1, hb⟩ | ⟨rfl, a0, a1, a2, hb⟩ | ⟨rfl, a0, a1, a2, a3, hb⟩ | ⟨rfl, a0, a1, a2, a3, a4, hb⟩
    · by_cases t : ((1 : Int) == k) = true
      · as_aux_lemma =>
        go_wp2
        go_ret
        have e : k = 1 := (beq_iff_eq.1 t).symm
        subst e
        exact ⟨rfl, (hb.alloc hb.size _)⟩
      · as_aux_lemma =>
        replace t : ((1 : Int) == k) = false := by simpa using t
        go_wp2
        go_roundw
        case rel => exact .inr (.inl ⟨rfl, t, hb.alloc hb.size _⟩)
        case measure => simp [intOf]
    · by_cases t : ((2 : Int) == k) = true
      · as_aux_lemma =>
        go_wp2
        go_ret
        have e : k = 2 := (beq_iff_eq.1 t).symm
        subst e
        exact ⟨rfl, (hb.alloc hb.size _)⟩
      · as_aux_lemma =>
        replace t : ((2 : Int) == k) = false := by simpa using t
        go_wp2
        go_roundw
        case rel => exact .inr (.inr (.inl ⟨rfl, a0, t, hb.alloc hb.size _⟩))
        case measure => simp [intOf]
    · by_cases t : ((3 : Int) == k) = true
      · as_aux_lemma =>
        go_wp2
        go_ret
        have e : k = 3 := (beq_iff_eq.1 t).symm
        subst e
        exact ⟨rfl, (hb.alloc hb.size _)⟩
      · as_aux_lemma =>
        replace t : ((3 : Int) == k) = false := by simpa using t
        go_wp2
        go_roundw
        case rel => exact .inr (.inr (.inr (.inl ⟨rfl, a0, a1, t, hb.alloc hb.size _⟩)))
        case measure => simp [intOf]
    · by_cases t : ((4 : Int) == k) = true
      · as_aux_lemma =>
        go_wp2
        go_ret
        have e : k = 4 := (beq_iff_eq.1 t).symm
        subst e
        exact ⟨rfl, (hb.alloc hb.size _)⟩
      · as_aux_lemma =>
        replace t : ((4 : Int) == k) = false := by simpa using t
        go_wp2
        go_roundw
        case rel => exact .inr (.inr (.inr (.inr (.inl ⟨rfl, a0, a1, a2, t, hb.alloc hb.size _⟩))))
        case measure => simp [intOf]
    · by_cases t : ((5 : Int) == k) = true
      · as_aux_lemma =>
        go_wp2
        go_ret
        have e : k = 5 := (beq_iff_eq.1 t).symm
        subst e
        exact ⟨rfl, (hb.alloc hb.size _)⟩
      · as_aux_lemma =>
        replace t : ((5 : Int) == k) = false := by simpa using t
        go_wp2
        go_roundw
        case rel => exact .inr (.inr (.inr (.inr (.inr (⟨rfl, a0, a1, a2, a3, t, hb.alloc hb.size _⟩)))))
        case measure => simp [intOf]
    · as_aux_lemma =>
      have e : kname k = ⟨#[]⟩ := by unfold kname; rw [if_neg (nk a0), if_neg (nk a1), if_neg (nk a2), if_neg (nk a3), if_neg (nk a4)]
      go_wp2
      go_ret
      exact ⟨by rw [e]; rfl, hb⟩
end Go.Proofs.YtpmebnkjcekmmaaGreatDoor
