/- The entries of step, op and fold, for every world. -/
import Derived.Test.YtpmebnkjcekmmaaGreatDoorEnt
namespace Go.Proofs.YtpmebnkjcekmmaaGreatDoor
open Go.RowKit Go.Lib Go.Proofs.YtpmebnkjcekmmaaGreatDoorW.PrintWords Go.Proofs.YtpmebnkjcekmmaaGreatDoorW.PrintLast
set_option linter.unusedVariables false
set_option linter.unusedSimpArgs false

/-! ### step.words, step.Entries -/
def stepEs : List (Int × Int × ByteArray × Int) := [(3, 1, ⟨#[97, 100, 100]⟩, 1), (3, 2, ⟨#[114, 101, 110, 97, 109, 101]⟩, 2), (3, 3, ⟨#[115, 112, 108, 105, 116]⟩, 3), (3, 4, ⟨#[106, 111, 105, 110]⟩, 3), (3, 5, ⟨#[114, 101, 116, 121, 112, 101]⟩, 1), (3, 6, ⟨#[100, 114, 111, 112]⟩, 1)]
def stepA (j : Nat) : Array Value := ((stepEs.take j).flatMap entC ++ (stepEs.drop j).flatMap fun e => entC (0, 0, e.2.2.1, e.2.2.2)).toArray
def StepFill (j : Nat) : Prop := ((stepA j).setIfInBounds (j * 4) (.int .i64 3)).setIfInBounds (j * 4 + 1) (.int .i64 ((j : Int) + 1)) = stepA (j + 1) ∧ (stepA j)[j * 4]? = some (.int .i64 0) ∧ (stepA j)[j * 4 + 1]? = some (.int .i64 0)
theorem step_fill (j : Nat) (h : j < 6) : StepFill j := by
  match j, h with
  | 0, _ | 1, _ | 2, _ | 3, _ | 4, _ | 5, _ => exact ⟨by kernel_rfl, by kernel_rfl, by kernel_rfl⟩
abbrev stepL : Array Value := #[.int .i64 0, .int .i64 0, .string ⟨#[97, 100, 100]⟩, .int .i64 1, .int .i64 0, .int .i64 0, .string ⟨#[114, 101, 110, 97, 109, 101]⟩, .int .i64 2, .int .i64 0, .int .i64 0, .string ⟨#[115, 112, 108, 105, 116]⟩, .int .i64 3, .int .i64 0, .int .i64 0, .string ⟨#[106, 111, 105, 110]⟩, .int .i64 3, .int .i64 0, .int .i64 0, .string ⟨#[114, 101, 116, 121, 112, 101]⟩, .int .i64 1, .int .i64 0, .int .i64 0, .string ⟨#[100, 114, 111, 112]⟩, .int .i64 1]
theorem step_first : stepL = stepA 0 := by kernel_rfl
theorem step_all : stepA 6 = fillL stepEs 6 := by kernel_rfl
def StepRel (w : World) (j : Nat) (wr : World) : Prop :=
  wr.heap[w.heap.size]? = some (.cells (fillL stepEs 0) 76 (0, 0)) ∧ wr.heap[w.heap.size + 1]? = some (.cells (stepA j) 76 (0, 0)) ∧ Below w.heap.size w wr
theorem step_next {w wr : World} {j : Nat} (h : StepRel w j wr) (hf : StepFill j) : StepRel w (j + 1) ((wr.setCell ⟨w.heap.size + 1, j * 4, none⟩ (.int .i64 3)).setCell ⟨w.heap.size + 1, j * 4 + 1, none⟩ (.int .i64 ((j : Int) + 1))) := by
  obtain ⟨h0, h1, h2⟩ := h
  refine ⟨?_, (blk_set (blk_set h1 _ _) _ _).trans (by rw [hf.1]), (h2.setCell (by simp) _).setCell (by simp) _⟩
  rw [Below.heap_setCell _ _ _ _ (by simp), Below.heap_setCell _ _ _ _ (by simp)]
  exact h0
set_option maxRecDepth 100000 in
set_option maxHeartbeats 2000000 in
theorem swords_any (w : World) : Calls Tryz.prog 57 #[] w fun e w' => e = .returned (.agg (fillL stepEs 6)) ∧ Below w.heap.size w w' := by
  have hZ := heap_b2 w (.cells (fillL stepEs 0) 76) (.cells (fillL stepEs 0) 76)
  have hY := heap_a2 w (.cells (fillL stepEs 0) 76) (.cells (fillL stepEs 0) 76)
  go_enter Tryz.func57, Tryz.ntmps57
  go_wp2_with (refine wpList_store_row rfl 76 (.tmp 1) (.tmp 9) rfl (w.heap.size + 1) stepL (by first | rfl | simp [Act.eval]) (by first | rfl | simp [Act.eval]) 76 (fillL stepEs 0) hZ (by kernel_rfl) (by kernel_rfl) (by kernel_rfl) ?_; have hX : StepRel w 0 (((w.alloc (.cells (fillL stepEs 0) 76)).alloc (.cells (fillL stepEs 0) 76)).setRow (w.heap.size + 1) stepL) := ⟨(setRow_other _ _ _ _ (by omega)).trans hY, (setRow_heap _ _ _ _ _ _ hZ).trans (by rw [step_first]), below_setRow (below2 _ _ _) (by omega) _⟩; have HX := Lib.hid hX; clear hX hZ hY)
  go_loopw [10] (fun i wr => ∃ j : Nat, j ≤ 6 ∧ i = .int .i64 j ∧ StepRel w j wr) (fun i _ => 6 - (RowKit.intOf i).toNat)
  case atStart => exact ⟨0, by omega, rfl, HX.out⟩
  case round =>
    clear HX
    obtain ⟨j, hj, rfl, hrel⟩ := hrel
    have HR := Lib.hid hrel
    clear hrel
    by_cases hlt : j < 6
    · as_aux_lemma =>
      have hf := step_fill j hlt
      have c0 := cell_of_heap HR.out.2.1 _ _ hf.2.1
      have c1 := cell_of_heap HR.out.2.1 _ _ hf.2.2
      have f0 := blk_frozen HR.out.2.1 (j * 4)
      have f1 := blk_frozen HR.out.2.1 (j * 4 + 1)
      have HF := Lib.hid hf
      clear hf
      have j0 : (0 : Int) ≤ (j : Int) := Int.natCast_nonneg _
      have j1 : (j : Int) < 6 := by omega
      have e3 : IntKind.i64.wrap ((j : Int) + 1) = (j : Int) + 1 := IntWalk.i64_in _ (by omega)
      go_wp2
      have hX := step_next HR.out HF.out
      generalize (wr.setCell ⟨w.heap.size + 1, j * 4, none⟩ (.int .i64 3)).setCell ⟨w.heap.size + 1, j * 4 + 1, none⟩ (.int .i64 ((j : Int) + 1)) = wn at hX ⊢
      have HX := Lib.hid hX
      clear hX
      go_roundw
      case rel => exact ⟨j + 1, by omega, by go_num, HX.out⟩
      case measure => simp [RowKit.intOf]; omega
    · as_aux_lemma =>
      obtain rfl : j = 6 := by omega
      obtain ⟨hA, hB0, hW⟩ := HR.out
      have hB : wr.heap[w.heap.size + 1]? = some (.cells (fillL stepEs 6) 76 (0, 0)) := hB0.trans (by rw [step_all])
      clear hB0
      go_wp2_with (first
        | (refine wpList_load_row rfl 76 (.tmp 1) rfl (w.heap.size + 1) rfl 76 (fillL stepEs 6) (0, 0) _ hB Tryz.underlying76 rfl (by kernel_rfl) ?_)
        | (refine wpList_store_row rfl 76 (.tmp 0) (.tmp 22) rfl w.heap.size (fillL stepEs 6) rfl rfl 76 (fillL stepEs 0) hA (by kernel_rfl) (by kernel_rfl) (by kernel_rfl) ?_))
      exact bodyPost_ret (results_cell_row rfl _ _ w.heap.size 76 (fillL stepEs 6) (0, 0) _ rfl (setRow_heap _ _ _ _ _ _ hA) Tryz.underlying76 rfl (by kernel_rfl)) rfl ⟨rfl, below_setRow hW (Nat.le_refl _) _⟩
set_option maxRecDepth 100000 in
set_option maxHeartbeats 1000000 in
/-- step.Entries: a new row of the entries. -/
theorem sentries_any (w : World) : Calls Tryz.prog 25 #[] w fun e w' => ∃ g, e = .returned (.slice (some ⟨g, 0, none⟩) 6 6) ∧ w.heap.size ≤ g ∧ w'.heap[g]? = some (.cells (fillL stepEs 6) 76 (0, 0)) ∧ Below w.heap.size w w' := by
  go_enter Tryz.func25, Tryz.ntmps25
  go_wp2_with (first
    | (go_at_call 57; refine (swords_any _).mono ?_; rintro e w1 ⟨rfl, hb⟩; have hA := heap_last w1 (.cells (fillL stepEs 0) 76))
    | (refine wpList_store_row rfl 76 (.tmp 1) (.tmp 2) rfl w1.heap.size (fillL stepEs 6) rfl rfl 76 (fillL stepEs 0) hA (by kernel_rfl) (by kernel_rfl) (by kernel_rfl) ?_; have hR := heap_row w1 (fillL stepEs 0) (fillL stepEs 6) 76; have hB := below_row hb (.cells (fillL stepEs 0) 76) (fillL stepEs 6)))
  go_ret
  exact ⟨w1.heap.size, rfl, hb.size, hR, hB⟩

/-! ### op.made, op.Entries -/
abbrev opNames : Array Value := #[.string ⟨#[108, 111, 97, 100]⟩, .string ⟨#[99, 111, 110, 115, 116]⟩, .string ⟨#[99, 111, 110, 118]⟩, .string ⟨#[104, 101, 97, 100]⟩, .string ⟨#[116, 97, 105, 108]⟩, .string ⟨#[106, 111, 105, 110]⟩]
def opSizes : Array Value := #[.int .i64 1, .int .i64 0, .int .i64 2, .int .i64 1, .int .i64 1, .int .i64 2]
def opEs : List (Int × Int × ByteArray × Int) := [(4, 1, ⟨#[108, 111, 97, 100]⟩, 1), (4, 2, ⟨#[99, 111, 110, 115, 116]⟩, 0), (4, 3, ⟨#[99, 111, 110, 118]⟩, 2), (4, 4, ⟨#[104, 101, 97, 100]⟩, 1), (4, 5, ⟨#[116, 97, 105, 108]⟩, 1), (4, 6, ⟨#[106, 111, 105, 110]⟩, 2)]
def OpFill (j : Nat) (s : ByteArray) (z : Int) : Prop :=
  ((((fillL opEs j).setIfInBounds (j * 4) (.int .i64 4)).setIfInBounds (j * 4 + 1) (.int .i64 ((j : Int) + 1))).setIfInBounds (j * 4 + 2) (.string s)).setIfInBounds (j * 4 + 3) (.int .i64 z) = fillL opEs (j + 1) ∧ (fillL opEs j).size = 24
theorem op_fill (j : Nat) (h : j < 6) : ∃ s z, opSizes[j]? = some (.int .i64 z) ∧ (∀ w, (Instr.index 91 (.agg opNames) (.int .i64 j)).run Tryz.prog w = .ok (.string s) w) ∧ OpFill j s z := by
  match j, h with
  | 0, _ => exact ⟨⟨#[108, 111, 97, 100]⟩, 1, by kernel_rfl, fun w => by kernel_rfl, by kernel_rfl, by kernel_rfl⟩
  | 1, _ => exact ⟨⟨#[99, 111, 110, 115, 116]⟩, 0, by kernel_rfl, fun w => by kernel_rfl, by kernel_rfl, by kernel_rfl⟩
  | 2, _ => exact ⟨⟨#[99, 111, 110, 118]⟩, 2, by kernel_rfl, fun w => by kernel_rfl, by kernel_rfl, by kernel_rfl⟩
  | 3, _ => exact ⟨⟨#[104, 101, 97, 100]⟩, 1, by kernel_rfl, fun w => by kernel_rfl, by kernel_rfl, by kernel_rfl⟩
  | 4, _ => exact ⟨⟨#[116, 97, 105, 108]⟩, 1, by kernel_rfl, fun w => by kernel_rfl, by kernel_rfl, by kernel_rfl⟩
  | 5, _ => exact ⟨⟨#[106, 111, 105, 110]⟩, 2, by kernel_rfl, fun w => by kernel_rfl, by kernel_rfl, by kernel_rfl⟩
def OpRel (w : World) (j : Nat) (wr : World) : Prop :=
  wr.heap[w.heap.size]? = some (.cells (fillL opEs 0) 76 (0, 0)) ∧ wr.heap[w.heap.size + 1 + 1 + 1]? = some (.cells (fillL opEs j) 76 (0, 0)) ∧ wr.heap[w.heap.size + 1 + 1]? = some (.cells opSizes 50 (0, 0)) ∧ Below w.heap.size w wr
set_option maxRecDepth 100000 in
set_option maxHeartbeats 2000000 in
theorem omade_any (w : World) : Calls Tryz.prog 58 #[] w fun e w' => e = .returned (.agg (fillL opEs 6)) ∧ Below w.heap.size w w' := by
  go_enter Tryz.func58, Tryz.ntmps58
  go_wp2
  go_loopw [9] (fun i wr => ∃ j : Nat, j ≤ 6 ∧ i = .int .i64 j ∧ OpRel w j wr) (fun i _ => 6 - (RowKit.intOf i).toNat)
  case atStart => exact ⟨0, by omega, rfl, (heap4 _ _ _ _ _).1, (heap4 _ _ _ _ _).2.2.2, (heap4 _ _ _ _ _).2.2.1, below4 _ _ _ _ _⟩
  case round =>
    obtain ⟨j, hj, rfl, hrel⟩ := hrel
    have HR := Lib.hid hrel
    clear hrel
    by_cases hlt : j < 6
    · as_aux_lemma =>
      obtain ⟨s, z, y0, hi, hf⟩ := op_fill j hlt
      have c0 := cell_of_heap HR.out.2.2.1 _ _ y0
      have HF := Lib.hid hf
      simp only [opNames] at hi
      clear y0 hf
      have j0 : (0 : Int) ≤ (j : Int) := Int.natCast_nonneg _
      have j1 : (j : Int) < 6 := by omega
      have e3 : IntKind.i64.wrap ((j : Int) + 1) = (j : Int) + 1 := IntWalk.i64_in _ (by omega)
      go_wp2_with (refine wpList_store_mid rfl 34 (.tmp 21) (.tmp 20) rfl (w.heap.size + 1 + 1 + 1) (j * 4) #[.int .i64 4, .int .i64 ((j : Int) + 1), .string s, .int .i64 z] rfl rfl (there_of HR.out.2.1 (j * 4) 4 (by rw [HF.out.2]; omega)) (by kernel_rfl) (by simp [Value.oneCell']) ?_; have hX : OpRel w (j + 1) (wr.setCells (w.heap.size + 1 + 1 + 1) (j * 4) [.int .i64 4, .int .i64 ((j : Int) + 1), .string s, .int .i64 z]) := ⟨(set4_far _ _ _ _ _ _ _ _ (by omega)).trans HR.out.1, (set4_heap HR.out.2.1 (j * 4) _ _ _ _).trans (by rw [HF.out.1]), (set4_far _ _ _ _ _ _ _ _ (by omega)).trans HR.out.2.2.1, set4_below HR.out.2.2.2 _ _ _ _ _ _ (by omega)⟩; generalize wr.setCells (w.heap.size + 1 + 1 + 1) (j * 4) [.int .i64 4, .int .i64 ((j : Int) + 1), .string s, .int .i64 z] = w3 at hX ⊢; have HX := Lib.hid hX; clear hX)
      go_roundw
      case rel => exact ⟨j + 1, by omega, by go_num, HX.out⟩
      case measure => simp [RowKit.intOf]; omega
    · as_aux_lemma =>
      obtain rfl : j = 6 := by omega
      obtain ⟨hA, hB, _, hW⟩ := HR.out
      go_wp2_with (first
        | (refine wpList_load_row rfl 76 (.tmp 3) rfl (w.heap.size + 1 + 1 + 1) rfl 76 (fillL opEs 6) (0, 0) _ hB Tryz.underlying76 rfl (by kernel_rfl) ?_)
        | (refine wpList_store_row rfl 76 (.tmp 0) (.tmp 23) rfl w.heap.size (fillL opEs 6) rfl rfl 76 (fillL opEs 0) hA (by kernel_rfl) (by kernel_rfl) (by kernel_rfl) ?_))
      exact bodyPost_ret (results_cell_row rfl _ _ w.heap.size 76 (fillL opEs 6) (0, 0) _ rfl (setRow_heap _ _ _ _ _ _ hA) Tryz.underlying76 rfl (by kernel_rfl)) rfl ⟨rfl, below_setRow hW (Nat.le_refl _) _⟩
set_option maxRecDepth 100000 in
set_option maxHeartbeats 1000000 in
/-- op.Entries: a new row of the entries. -/
theorem oentries_any (w : World) : Calls Tryz.prog 26 #[] w fun e w' => ∃ g, e = .returned (.slice (some ⟨g, 0, none⟩) 6 6) ∧ w.heap.size ≤ g ∧ w'.heap[g]? = some (.cells (fillL opEs 6) 76 (0, 0)) ∧ Below w.heap.size w w' := by
  go_enter Tryz.func26, Tryz.ntmps26
  go_wp2_with (first
    | (go_at_call 58; refine (omade_any _).mono ?_; rintro e w1 ⟨rfl, hb⟩; have hA := heap_last w1 (.cells (fillL opEs 0) 76))
    | (refine wpList_store_row rfl 76 (.tmp 1) (.tmp 2) rfl w1.heap.size (fillL opEs 6) rfl rfl 76 (fillL opEs 0) hA (by kernel_rfl) (by kernel_rfl) (by kernel_rfl) ?_; have hR := heap_row w1 (fillL opEs 0) (fillL opEs 6) 76; have hB := below_row hb (.cells (fillL opEs 0) 76) (fillL opEs 6)))
  go_ret
  exact ⟨w1.heap.size, rfl, hb.size, hR, hB⟩

/-! ### fold.table, fold.made, fold.Entries -/
def foldRow (b : Nat) : Array Value := #[.string ⟨#[99, 111, 117, 110, 116]⟩, .int .i64 31, .func (.func 92) #[] #[], .string ⟨#[115, 117, 109]⟩, .int .i64 3, .func (.func 96) #[] #[], .string ⟨#[109, 105, 110]⟩, .int .i64 31, .func (.func 141) #[] #[.pointer (some ⟨b, 0, none⟩)], .string ⟨#[109, 97, 120]⟩, .int .i64 31, .func (.func 141) #[] #[.pointer (some ⟨b + 1, 0, none⟩)], .string ⟨#[102, 105, 114, 115, 116]⟩, .int .i64 31, .func (.func 98) #[] #[], .string ⟨#[108, 97, 115, 116]⟩, .int .i64 31, .func (.func 102) #[] #[], .string ⟨#[100, 105, 115, 116, 105, 110, 99, 116]⟩, .int .i64 31, .func (.func 105) #[] #[]]
set_option maxRecDepth 100000 in
theorem best_any (z : Int) (w : World) : Calls Tryz.prog 97 #[.int .i64 z] w fun e w' => e = .returned (.func (.func 141) #[] #[.pointer (some ⟨w.heap.size, 0, none⟩)]) ∧ w.alloc (.cells #[.int .i64 z] 3) = w' := by
  go_enter Tryz.func97, Tryz.ntmps97
  go_wp2
  go_ret
  exact ⟨rfl, rfl⟩
set_option maxRecDepth 100000 in
set_option maxHeartbeats 1000000 in
theorem ftable_any (w : World) : Calls Tryz.prog 82 #[] w fun e w' => e = .returned (.slice (some ⟨w.heap.size + 1 + 1, 0, none⟩) 7 7) ∧ ((w.alloc (.cells #[.int .i64 (-1)] 3)).alloc (.cells #[.int .i64 1] 3)).alloc (.cells (foldRow w.heap.size) 96) = w' := by
  go_enter Tryz.func82, Tryz.ntmps82
  go_wp2_with fail
  refine (best_any _ _).mono ?_
  rintro e w1 ⟨rfl, rfl⟩
  go_wp2_with fail
  refine (best_any _ _).mono ?_
  rintro e w1 ⟨rfl, rfl⟩
  go_wp2
  go_ret
  exact ⟨rfl, rfl⟩
def foldEs : List (Int × Int × ByteArray × Int) := [(5, 1, ⟨#[99, 111, 117, 110, 116]⟩, 31), (5, 2, ⟨#[115, 117, 109]⟩, 3), (5, 3, ⟨#[109, 105, 110]⟩, 31), (5, 4, ⟨#[109, 97, 120]⟩, 31), (5, 5, ⟨#[102, 105, 114, 115, 116]⟩, 31), (5, 6, ⟨#[108, 97, 115, 116]⟩, 31), (5, 7, ⟨#[100, 105, 115, 116, 105, 110, 99, 116]⟩, 31)]
def FoldFill (j : Nat) (s : ByteArray) (z : Int) : Prop :=
  ((((fillL foldEs j).setIfInBounds (j * 4) (.int .i64 5)).setIfInBounds (j * 4 + 1) (.int .i64 ((j : Int) + 1))).setIfInBounds (j * 4 + 2) (.string s)).setIfInBounds (j * 4 + 3) (.int .i64 z) = fillL foldEs (j + 1) ∧ (fillL foldEs j).size = 28
theorem fold_fill (b j : Nat) (h : j < 7) : ∃ s z d, (foldRow b)[j * 3]? = some (.string s) ∧ (foldRow b)[j * 3 + 1]? = some (.int .i64 z) ∧ (foldRow b)[j * 3 + 2]? = some d ∧ (#[.string s, .int .i64 z, d] : Array Value).all (·.oneCell') = true ∧ FoldFill j s z := by
  match j, h with
  | 0, _ => exact ⟨_, _, _, rfl, rfl, rfl, by kernel_rfl, by kernel_rfl, by kernel_rfl⟩
  | 1, _ => exact ⟨_, _, _, rfl, rfl, rfl, by kernel_rfl, by kernel_rfl, by kernel_rfl⟩
  | 2, _ => exact ⟨_, _, _, rfl, rfl, rfl, by kernel_rfl, by kernel_rfl, by kernel_rfl⟩
  | 3, _ => exact ⟨_, _, _, rfl, rfl, rfl, by kernel_rfl, by kernel_rfl, by kernel_rfl⟩
  | 4, _ => exact ⟨_, _, _, rfl, rfl, rfl, by kernel_rfl, by kernel_rfl, by kernel_rfl⟩
  | 5, _ => exact ⟨_, _, _, rfl, rfl, rfl, by kernel_rfl, by kernel_rfl, by kernel_rfl⟩
  | 6, _ => exact ⟨_, _, _, rfl, rfl, rfl, by kernel_rfl, by kernel_rfl, by kernel_rfl⟩
def FMadeRel (w : World) (j : Nat) (wr : World) : Prop :=
  wr.heap[w.heap.size]? = some (.cells (fillL foldEs 0) 78 (0, 0)) ∧ wr.heap[w.heap.size + 1]? = some (.cells (fillL foldEs j) 78 (0, 0)) ∧ wr.heap[w.heap.size + 1 + 1 + 1 + 1]? = some (.cells (foldRow (w.heap.size + 1 + 1)) 96 (0, 0)) ∧ Below w.heap.size w wr
theorem heap5 (w : World) (o1 o2 o3 o4 o5 : Obj) : (((((w.alloc o1).alloc o2).alloc o3).alloc o4).alloc o5).heap[w.heap.size]? = some o1 ∧ (((((w.alloc o1).alloc o2).alloc o3).alloc o4).alloc o5).heap[w.heap.size + 1]? = some o2 ∧ (((((w.alloc o1).alloc o2).alloc o3).alloc o4).alloc o5).heap[w.heap.size + 1 + 1 + 1 + 1]? = some o5 := by
  have h := heap4 w o1 o2 o3 o4
  have h5 := heap_last ((((w.alloc o1).alloc o2).alloc o3).alloc o4) o5
  rw [World.size_alloc, World.size_alloc, World.size_alloc, World.size_alloc] at h5
  refine ⟨?_, ?_, h5⟩
  · rw [Below.heap_alloc _ _ _ (by simp <;> omega)]
    exact h.1
  · rw [Below.heap_alloc _ _ _ (by simp <;> omega)]
    exact h.2.1
theorem below5 (w : World) (o1 o2 o3 o4 o5 : Obj) : Below w.heap.size w (((((w.alloc o1).alloc o2).alloc o3).alloc o4).alloc o5) :=
  (below4 w o1 o2 o3 o4).alloc (below4 w o1 o2 o3 o4).size _
set_option maxRecDepth 100000 in
set_option maxHeartbeats 4000000 in
theorem fmade_any (w : World) : Calls Tryz.prog 59 #[] w fun e w' => e = .returned (.agg (fillL foldEs 7)) ∧ Below w.heap.size w w' := by
  go_enter Tryz.func59, Tryz.ntmps59
  go_wp2_with (go_at_call 82; refine (ftable_any _).mono ?_; rintro e w1 ⟨rfl, rfl⟩)
  go_loopw [6] (fun i wr => ∃ j : Nat, j ≤ 7 ∧ i = .int .i64 j ∧ FMadeRel w j wr) (fun i _ => 7 - (RowKit.intOf i).toNat)
  case atStart => exact ⟨0, by omega, rfl, (heap5 _ _ _ _ _ _).1, (heap5 _ _ _ _ _ _).2.1, by simpa using (heap5 _ _ _ _ _ _).2.2, below5 _ _ _ _ _ _⟩
  case round =>
    obtain ⟨j, hj, rfl, hrel⟩ := hrel
    have HR := Lib.hid hrel
    have l1 : w.heap.size + 1 < wr.heap.size := heap_lt hrel.2.1
    have l4 : w.heap.size + 1 + 1 + 1 + 1 < wr.heap.size := heap_lt hrel.2.2.1
    clear hrel
    by_cases hlt : j < 7
    · as_aux_lemma =>
      obtain ⟨s, z, d, y0, y1, y2, ho, hf⟩ := fold_fill (w.heap.size + 1 + 1) j hlt
      have c0 := cell_of_heap HR.out.2.2.1 _ _ y0
      have c1 := cell_of_heap HR.out.2.2.1 _ _ y1
      have c2 := cell_of_heap HR.out.2.2.1 _ _ y2
      have HO := Lib.hid ho
      have HF := Lib.hid hf
      have hZ := heap_last wr (.cells #[.string ⟨#[]⟩, .int .i64 0, .nilFunc] 96)
      clear y0 y1 y2 ho hf
      have j0 : (0 : Int) ≤ (j : Int) := Int.natCast_nonneg _
      have j1 : (j : Int) < 7 := by omega
      have e3 : IntKind.i64.wrap ((j : Int) + 1) = (j : Int) + 1 := IntWalk.i64_in _ (by omega)
      go_wp2_with (first
        | (refine wpList_store_row rfl 96 (.tmp 3) (.tmp 10) rfl wr.heap.size #[.string s, .int .i64 z, d] rfl rfl 96 _ hZ (by kernel_rfl) rfl HO.out ?_; have hR := heap_row wr #[.string ⟨#[]⟩, .int .i64 0, .nilFunc] #[.string s, .int .i64 z, d] 96; have hB := below_row (Below.refl wr.heap.size wr) (.cells #[.string ⟨#[]⟩, .int .i64 0, .nilFunc] 96) #[.string s, .int .i64 z, d]; generalize (wr.alloc (.cells #[.string ⟨#[]⟩, .int .i64 0, .nilFunc] 96)).setRow wr.heap.size #[.string s, .int .i64 z, d] = w2 at hR hB ⊢; have z0 : w2.cell? ⟨wr.heap.size, 0, none⟩ = some (.string s) := cell_of_heap hR 0 _ rfl; have z1 : w2.cell? ⟨wr.heap.size, 1, none⟩ = some (.int .i64 z) := cell_of_heap hR 1 _ rfl; have p1 := (hB.block _ l1).trans HR.out.2.1; have p0 := (hB.block _ (Nat.lt_of_succ_lt l1)).trans HR.out.1; have p4 := (hB.block _ l4).trans HR.out.2.2.1; have pW := below_then HR.out.2.2.2 HR.out.2.2.2.size hB; have P1 := Lib.hid p1; have P0 := Lib.hid p0; have P4 := Lib.hid p4; have PW := Lib.hid pW; clear p1 p0 p4 pW hB)
        | (refine wpList_store_mid rfl 34 (.tmp 19) (.tmp 18) rfl (w.heap.size + 1) (j * 4) #[.int .i64 5, .int .i64 ((j : Int) + 1), .string s, .int .i64 z] rfl rfl (there_of P1.out (j * 4) 4 (by rw [HF.out.2]; omega)) (by kernel_rfl) (by simp [Value.oneCell']) ?_; have hX : FMadeRel w (j + 1) (w2.setCells (w.heap.size + 1) (j * 4) [.int .i64 5, .int .i64 ((j : Int) + 1), .string s, .int .i64 z]) := ⟨(set4_far _ _ _ _ _ _ _ _ (by omega)).trans P0.out, (set4_heap P1.out (j * 4) _ _ _ _).trans (by rw [HF.out.1]), (set4_far _ _ _ _ _ _ _ _ (by omega)).trans P4.out, set4_below PW.out _ _ _ _ _ _ (by omega)⟩; generalize w2.setCells (w.heap.size + 1) (j * 4) [.int .i64 5, .int .i64 ((j : Int) + 1), .string s, .int .i64 z] = w3 at hX ⊢; have HX := Lib.hid hX; clear hX))
      go_roundw
      case rel => exact ⟨j + 1, by omega, by go_num, HX.out⟩
      case measure => simp [RowKit.intOf]; omega
    · as_aux_lemma =>
      obtain rfl : j = 7 := by omega
      obtain ⟨o0, o1, _, hW⟩ := HR.out
      go_wp2_with (first
        | (refine wpList_load_row rfl 78 (.tmp 1) rfl (w.heap.size + 1) rfl 78 (fillL foldEs 7) (0, 0) _ o1 Tryz.underlying78 rfl (by kernel_rfl) ?_)
        | (refine wpList_store_row rfl 78 (.tmp 0) (.tmp 21) rfl w.heap.size (fillL foldEs 7) rfl rfl 78 (fillL foldEs 0) o0 (by kernel_rfl) (by kernel_rfl) (by kernel_rfl) ?_))
      exact bodyPost_ret (results_cell_row rfl _ _ w.heap.size 78 (fillL foldEs 7) (0, 0) _ rfl (setRow_heap _ _ _ _ _ _ o0) Tryz.underlying78 rfl (by kernel_rfl)) rfl ⟨rfl, below_setRow hW (Nat.le_refl _) _⟩
set_option maxRecDepth 100000 in
set_option maxHeartbeats 1000000 in
/-- fold.Entries: a new row of the entries. -/
theorem fentries_any (w : World) : Calls Tryz.prog 27 #[] w fun e w' => ∃ g, e = .returned (.slice (some ⟨g, 0, none⟩) 7 7) ∧ w.heap.size ≤ g ∧ w'.heap[g]? = some (.cells (fillL foldEs 7) 78 (0, 0)) ∧ Below w.heap.size w w' := by
  go_enter Tryz.func27, Tryz.ntmps27
  go_wp2_with (first
    | (go_at_call 59; refine (fmade_any _).mono ?_; rintro e w1 ⟨rfl, hb⟩; have hA := heap_last w1 (.cells (fillL foldEs 0) 78))
    | (refine wpList_store_row rfl 78 (.tmp 1) (.tmp 2) rfl w1.heap.size (fillL foldEs 7) rfl rfl 78 (fillL foldEs 0) hA (by kernel_rfl) (by kernel_rfl) (by kernel_rfl) ?_; have hR := heap_row w1 (fillL foldEs 0) (fillL foldEs 7) 78; have hB := below_row hb (.cells (fillL foldEs 0) 78) (fillL foldEs 7)))
  go_ret
  exact ⟨w1.heap.size, rfl, hb.size, hR, hB⟩
end Go.Proofs.YtpmebnkjcekmmaaGreatDoor
