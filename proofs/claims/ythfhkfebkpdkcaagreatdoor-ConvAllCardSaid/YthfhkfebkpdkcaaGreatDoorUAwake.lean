/- The law's first question is answered true, where the world is laid. -/
import Derived.Test.YthfhkfebkpdkcaaGreatDoorUApply
import Derived.Laws.StructEq
namespace Go.Proofs.YthfhkfebkpdkcaaGreatDoor
open Go.RowKit Go.Lib
theorem ask5 : convApply 5 4 0 ⟨#[48, 48, 55]⟩ = (1, 7, ⟨#[]⟩, 0) := by kernel_rfl
theorem ask1 : convApply 1 1 9223372036854775808 ⟨#[]⟩ = (0, 0, ⟨#[]⟩, 60) := by kernel_rfl
set_option maxRecDepth 100000 in
set_option maxHeartbeats 2000000 in
theorem awake_any (w : World) (hL : Laid w) : Calls Tryz.prog 9 #[] w fun e w' => e = .returned (.bool true) ∧ Below w.heap.size w w' := by
  have c5 : ∀ w, Laid w → Calls Tryz.prog 11 #[.int .i64 5, .agg #[.int .i64 4, .int .u64 0, .string ⟨#[48, 48, 55]⟩]] w fun e w' => e = .returned (.tuple #[.agg #[.int .i64 1, .int .u64 7, .string ⟨#[]⟩], .int .i64 0]) ∧ Below w.heap.size w w' := fun w hL => by
    have := apply_calls 5 4 0 ⟨#[48, 48, 55]⟩ w hL (by decide) (by decide) (by decide)
    rw [ask5] at this
    exact this
  have c1 : ∀ w, Laid w → Calls Tryz.prog 11 #[.int .i64 1, .agg #[.int .i64 1, .int .u64 9223372036854775808, .string ⟨#[]⟩]] w fun e w' => e = .returned (.tuple #[.agg #[.int .i64 0, .int .u64 0, .string ⟨#[]⟩], .int .i64 60]) ∧ Below w.heap.size w w' := fun w hL => by
    have := apply_calls 1 1 9223372036854775808 ⟨#[]⟩ w hL (by decide) (by decide) (by decide)
    rw [ask1] at this
    exact this
  have C5 := Lib.hid c5
  have C1 := Lib.hid c1
  have HL := Lib.hid hL
  clear c5 c1 hL
  go_enter Tryz.func9, Tryz.ntmps9
  go_wp2_with fail
  refine (C5.out _ HL.out).mono ?_
  rintro e w1 ⟨rfl, hb1⟩
  go_wp2_with fail
  have A := hb1.alloc hb1.size (.cells #[.int .i64 1, .int .u64 7, .string ⟨#[]⟩] 27)
  refine (C1.out _ (laid_below HL.out A)).mono ?_
  rintro e w2 ⟨rfl, hb2⟩
  have hV : w2.heap[w1.heap.size]? = some (.cells #[.int .i64 1, .int .u64 7, .string ⟨#[]⟩] 27 (0, 0)) := (hb2.block _ (by simp)).trans (heap_last _ _)
  have B := A.trans (hb2.mono A.size)
  have v0 := cell_of_heap hV 0 _ rfl
  have v1 := cell_of_heap hV 1 _ rfl
  have v2 := cell_of_heap hV 2 _ rfl
  simp only [List.getElem_toArray, List.getElem_cons_zero, List.getElem_cons_succ] at v0 v1 v2
  have q0 := (Below.cell (Below.alloc (Below.refl w2.heap.size w2) (Nat.le_refl _) (.cells #[.int .i64 0, .int .u64 0, .string ⟨#[]⟩] 27)) (p := ⟨w1.heap.size, 0, none⟩) (heap_lt hV)).trans v0
  have q1 := (Below.cell (Below.alloc (Below.refl w2.heap.size w2) (Nat.le_refl _) (.cells #[.int .i64 0, .int .u64 0, .string ⟨#[]⟩] 27)) (p := ⟨w1.heap.size, 1, none⟩) (heap_lt hV)).trans v1
  have q2 := (Below.cell (Below.alloc (Below.refl w2.heap.size w2) (Nat.le_refl _) (.cells #[.int .i64 0, .int .u64 0, .string ⟨#[]⟩] 27)) (p := ⟨w1.heap.size, 2, none⟩) (heap_lt hV)).trans v2
  have eqs : ∀ w, (binOp .eql 27 (.agg #[.int .i64 1, .int .u64 7, .string ⟨#[]⟩]) (.agg #[.int .i64 1, .int .u64 7, .string ⟨#[]⟩])).run Tryz.prog w = .ok (.bool true) w := fun _ => by kernel_rfl
  go_wp2_with (first
    | (go_at_call 43; refine (conv_ahead.calls 5 _ rfl).mono ?_; rintro e w3 ⟨rfl, hb3⟩)
    | go_in)
  go_ret
  have B2 := B.alloc B.size (.cells #[.int .i64 0, .int .u64 0, .string ⟨#[]⟩] 27)
  exact ⟨rfl, B2.trans (hb3.mono B2.size)⟩
def stratumlaw06_awake.f : Option Bool := some true
theorem stratumlaw06_awake.calls (r : Bool) (w : World) (hL : Laid w) (h : stratumlaw06_awake.f = some r) : Calls Tryz.prog 9 #[] w fun e w' => e = .returned (.bool r) ∧ Below w.heap.size w w' := by
  obtain rfl := Option.some.inj h
  exact awake_any w hL
end Go.Proofs.YthfhkfebkpdkcaaGreatDoor
