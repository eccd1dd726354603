/- conv.made and conv.Entries answer the twelve entries, for every world. -/
import Derived.Test.YtpmebnkjcekmmaaGreatDoorCabc
import Derived.Test.YtpmebnkjcekmmaaGreatDoorWTab
import Derived.Deep.MidRow
import Derived.IntWalk
namespace Go.Proofs.YtpmebnkjcekmmaaGreatDoor
open Go.RowKit Go.Lib Go.Proofs.YtpmebnkjcekmmaaGreatDoorW.PrintWords Go.Proofs.YtpmebnkjcekmmaaGreatDoorW.PrintLast
set_option linter.unusedVariables false
set_option linter.unusedSimpArgs false

/-! ### Rows of entries -/
def entC (e : Int × Int × ByteArray × Int) : List Value := [.int .i64 e.1, .int .i64 e.2.1, .string e.2.2.1, .int .i64 e.2.2.2]
def zeroC : List Value := [.int .i64 0, .int .i64 0, .string ⟨#[]⟩, .int .i64 0]
def fillL (l : List (Int × Int × ByteArray × Int)) (k : Nat) : Array Value := ((l.take k).flatMap entC ++ (List.replicate (l.length - k) zeroC).flatten).toArray
theorem heap_a2 (w : World) (o1 o2 : Obj) : ((w.alloc o1).alloc o2).heap[w.heap.size]? = some o1 := by
  rw [Below.heap_alloc _ _ _ (by simp), heap_last]
theorem heap_b2 (w : World) (o1 o2 : Obj) : ((w.alloc o1).alloc o2).heap[w.heap.size + 1]? = some o2 := by
  have := heap_last (w.alloc o1) o2
  rw [World.size_alloc] at this
  exact this
theorem below2 (w : World) (o1 o2 : Obj) : Below w.heap.size w ((w.alloc o1).alloc o2) := ((Below.refl _ _).alloc (Nat.le_refl _) _).alloc (by simp) _
theorem cell_same {w w1 : World} {g : Nat} (h : w1.heap[g]? = w.heap[g]?) (j : Nat) : w1.cell? ⟨g, j, none⟩ = w.cell? ⟨g, j, none⟩ := by simp [World.cell?, h]
theorem there_of {w : World} {b : Nat} {cs : Array Value} {t : TypeId} (h : w.heap[b]? = some (.cells cs t (0, 0))) (o n : Nat) (hn : o + n ≤ cs.size) : w.there b o n := fun j hj =>
  ⟨by simp [World.cell?, h]; omega, by simp [World.frozen?, h]⟩
/-- Four cells written. -/
theorem set4_heap {w : World} {b : Nat} {cs : Array Value} {t : TypeId} (h : w.heap[b]? = some (.cells cs t (0, 0))) (o : Nat) (v0 v1 v2 v3 : Value) :
    (w.setCells b o [v0, v1, v2, v3]).heap[b]? = some (.cells ((((cs.setIfInBounds o v0).setIfInBounds (o + 1) v1).setIfInBounds (o + 2) v2).setIfInBounds (o + 3) v3) t (0, 0)) := by
  simp only [World.setCells]
  exact blk_set (blk_set (blk_set (blk_set h o v0) (o + 1) v1) (o + 2) v2) (o + 3) v3
theorem set4_far (w : World) (b o g : Nat) (v0 v1 v2 v3 : Value) (hg : g ≠ b) : (w.setCells b o [v0, v1, v2, v3]).heap[g]? = w.heap[g]? := by
  simp only [World.setCells]
  rw [Below.heap_setCell _ _ _ _ hg, Below.heap_setCell _ _ _ _ hg, Below.heap_setCell _ _ _ _ hg, Below.heap_setCell _ _ _ _ hg]
theorem set4_below {B : Nat} {w0 w : World} (h : Below B w0 w) (b o : Nat) (v0 v1 v2 v3 : Value) (hb : B ≤ b) : Below B w0 (w.setCells b o [v0, v1, v2, v3]) := by
  simp only [World.setCells]
  exact (((h.setCell hb _).setCell hb _).setCell hb _).setCell hb _
theorem set4_size (w : World) (b o : Nat) (v0 v1 v2 v3 : Value) : (w.setCells b o [v0, v1, v2, v3]).heap.size = w.heap.size := by
  simp only [World.setCells]
  simp

/-! ### conv.made, conv.Entries -/
def convName (x : Int × Int) : ByteArray := kname x.1 ++ ⟨#[45]⟩ ++ kname x.2
def convE (j : Nat) (x : Int × Int) : Int × Int × ByteArray × Int := (2, (j : Int) + 1, convName x, 8 * x.1 + x.2)
def convEs : List (Int × Int × ByteArray × Int) := [convE 0 (1, 2), convE 1 (2, 1), convE 2 (1, 4), convE 3 (2, 4), convE 4 (4, 1), convE 5 (4, 2), convE 6 (3, 4), convE 7 (4, 3), convE 8 (3, 1), convE 9 (1, 3), convE 10 (4, 5), convE 11 (5, 4)]
def ConvFill (j : Nat) (x : Int × Int) : Prop :=
  ((((fillL convEs j).setIfInBounds (j * 4) (.int .i64 2)).setIfInBounds (j * 4 + 1) (.int .i64 ((j : Int) + 1))).setIfInBounds (j * 4 + 2) (.string (kname x.1 ++ ⟨#[45]⟩ ++ kname x.2))).setIfInBounds (j * 4 + 3) (.int .i64 (8 * x.1 + x.2)) = fillL convEs (j + 1) ∧ (fillL convEs j).size = 48
theorem conv_fill (j : Nat) (h : j < 12) : ∃ x : Int × Int, ∃ s d, convRows[j * 4]? = some (.int .i64 x.1) ∧ convRows[j * 4 + 1]? = some (.int .i64 x.2) ∧ convRows[j * 4 + 2]? = some (.bool s) ∧ convRows[j * 4 + 3]? = some d ∧ (#[.int .i64 x.1, .int .i64 x.2, .bool s, d] : Array Value).all (·.oneCell') = true ∧
    (1 ≤ x.1 ∧ x.1 ≤ 5 ∧ 1 ≤ x.2 ∧ x.2 ≤ 5) ∧ ConvFill j x := by
  match j, h with
  | 0, _ => exact ⟨(1, 2), _, _, rfl, rfl, rfl, rfl, by kernel_rfl, by decide, by kernel_rfl, by kernel_rfl⟩
  | 1, _ => exact ⟨(2, 1), _, _, rfl, rfl, rfl, rfl, by kernel_rfl, by decide, by kernel_rfl, by kernel_rfl⟩
  | 2, _ => exact ⟨(1, 4), _, _, rfl, rfl, rfl, rfl, by kernel_rfl, by decide, by kernel_rfl, by kernel_rfl⟩
  | 3, _ => exact ⟨(2, 4), _, _, rfl, rfl, rfl, rfl, by kernel_rfl, by decide, by kernel_rfl, by kernel_rfl⟩
  | 4, _ => exact ⟨(4, 1), _, _, rfl, rfl, rfl, rfl, by kernel_rfl, by decide, by kernel_rfl, by kernel_rfl⟩
  | 5, _ => exact ⟨(4, 2), _, _, rfl, rfl, rfl, rfl, by kernel_rfl, by decide, by kernel_rfl, by kernel_rfl⟩
  | 6, _ => exact ⟨(3, 4), _, _, rfl, rfl, rfl, rfl, by kernel_rfl, by decide, by kernel_rfl, by kernel_rfl⟩
  | 7, _ => exact ⟨(4, 3), _, _, rfl, rfl, rfl, rfl, by kernel_rfl, by decide, by kernel_rfl, by kernel_rfl⟩
  | 8, _ => exact ⟨(3, 1), _, _, rfl, rfl, rfl, rfl, by kernel_rfl, by decide, by kernel_rfl, by kernel_rfl⟩
  | 9, _ => exact ⟨(1, 3), _, _, rfl, rfl, rfl, rfl, by kernel_rfl, by decide, by kernel_rfl, by kernel_rfl⟩
  | 10, _ => exact ⟨(4, 5), _, _, rfl, rfl, rfl, rfl, by kernel_rfl, by decide, by kernel_rfl, by kernel_rfl⟩
  | 11, _ => exact ⟨(5, 4), _, _, rfl, rfl, rfl, rfl, by kernel_rfl, by decide, by kernel_rfl, by kernel_rfl⟩
theorem kname_size (k : Int) : (kname k).size ≤ 5 := by
  unfold kname
  repeat' split
  all_goals decide
def MadeRel (w w1 : World) (g j : Nat) (wr : World) : Prop :=
  wr.heap[w.heap.size]? = some (.cells (fillL convEs 0) 74 (0, 0)) ∧ wr.heap[w.heap.size + 1]? = some (.cells (fillL convEs j) 74 (0, 0)) ∧ wr.heap[g]? = w1.heap[g]? ∧ Below w.heap.size w wr ∧ w1.heap.size ≤ wr.heap.size

def made5.T5 : Bool × List (List Nat × List Nat) := (true, [([], []), ([], []), ([1], [1]), ([], []), ([3], [3]), ([4], [4]), ([5], [5]), ([], []), ([7], [7]), ([8, 5], [8]), ([6, 9], [6, 9]), ([], []), ([11], [11]), ([12], [12]), ([], []), ([14], [14]), ([13, 15], [13, 15]), ([2, 10, 16], [2, 10, 16]), ([0, 0, 1, 2, 3, 4, 5, 6, 7, 8, 9, 10, 11, 12, 13, 14, 15, 16, 17], [0]), ([18, 17, 9, 0, 1, 2, 3, 4, 5, 6, 7, 8, 9, 10, 11, 12, 13, 14, 15, 16, 17], [17, 18])])
def made5.B5 : List Nat := [0, 0, 2, 0, 8, 24, 56, 0, 128, 440, 1016, 0, 2048, 6144, 0, 16384, 63488, 131070, 262143, 524287]
theorem made5.tab5 : rtab .any (opsOf Tryz.f56 5) = made5.T5 := by kernel_rfl
theorem made5.bits5 : waitsOk made5.T5.2 made5.B5 = true := by kernel_rfl
set_option maxRecDepth 100000 in
set_option maxHeartbeats 4000000 in
theorem made_any (w : World) : Calls Tryz.prog 56 #[] w fun e w' => e = .returned (.agg (fillL convEs 12)) ∧ Below w.heap.size w w' := by
  go_enter Tryz.func56, Tryz.ntmps56
  go_wp2_with (go_at_call 81; refine (table_at _).mono ?_; rintro e w1 ⟨g, cap, rfl, hown, hb⟩)
  have hg : g < w1.heap.size := by
    rcases hown.2 with ⟨e1, _⟩ | ⟨g', cap', cur, e1, _, hh, _⟩
    · cases e1
    · cases e1
      exact heap_lt hh
  have hg0 : w.heap.size + 1 + 1 ≤ g := by simpa using own_block_base hown g rfl
  have hT : ∀ j u, convRows[j]? = some u → w1.cell? ⟨g, j, none⟩ = some u := fun j u hu => owns_cell hown j u hu
  have HT := Lib.hid hT
  have o0 : w1.heap[w.heap.size]? = some (.cells (fillL convEs 0) 74 (0, 0)) := (hb.block _ (by simp; omega)).trans (heap_a2 w _ _)
  have o1 : w1.heap[w.heap.size + 1]? = some (.cells (fillL convEs 0) 74 (0, 0)) := (hb.block _ (by simp)).trans (heap_b2 w _ _)
  have hW : Below w.heap.size w w1 := (below2 w _ _).trans (hb.mono (by simp; omega))
  clear hT hown hb
  go_loopw [6] (fun i wr => ∃ j : Nat, j ≤ 12 ∧ i = .int .i64 j ∧ MadeRel w w1 g j wr) (fun i _ => 12 - (RowKit.intOf i).toNat)
  case atStart => exact ⟨0, by omega, rfl, o0, o1, rfl, hW, Nat.le_refl _⟩
  case round =>
    clear o0 o1 hW
    obtain ⟨j, hj, rfl, hrel⟩ := hrel
    have HR := Lib.hid hrel
    have lg : g < wr.heap.size := Nat.lt_of_lt_of_le hg hrel.2.2.2.2
    have l1 : w.heap.size + 1 < wr.heap.size := heap_lt hrel.2.1
    clear hrel
    by_cases hlt : j < 12
    · as_aux_lemma =>
      obtain ⟨x, s, d, y0, y1, y2, y3, ho, ⟨x0, x1, x2, x3⟩, hf⟩ := conv_fill j hlt
      have c0 := (cell_same HR.out.2.2.1 (j * 4)).trans (HT.out _ _ y0)
      have c1 := (cell_same HR.out.2.2.1 (j * 4 + 1)).trans (HT.out _ _ y1)
      have c2 := (cell_same HR.out.2.2.1 (j * 4 + 2)).trans (HT.out _ _ y2)
      have c3 := (cell_same HR.out.2.2.1 (j * 4 + 3)).trans (HT.out _ _ y3)
      have HO := Lib.hid ho
      have HF := Lib.hid hf
      have hZ := heap_last wr (.cells #[.int .i64 0, .int .i64 0, .bool false, .nilFunc] 90)
      clear y0 y1 y2 y3 ho hf
      go_wp2_with (refine wpList_store_row rfl 90 (.tmp 3) (.tmp 10) rfl wr.heap.size #[.int .i64 x.1, .int .i64 x.2, .bool s, d] rfl rfl 90 _ hZ (by kernel_rfl) rfl HO.out ?_; have hR := heap_row wr #[.int .i64 0, .int .i64 0, .bool false, .nilFunc] #[.int .i64 x.1, .int .i64 x.2, .bool s, d] 90; have hB := below_row (Below.refl wr.heap.size wr) (.cells #[.int .i64 0, .int .i64 0, .bool false, .nilFunc] 90) #[.int .i64 x.1, .int .i64 x.2, .bool s, d]; generalize (wr.alloc (.cells #[.int .i64 0, .int .i64 0, .bool false, .nilFunc] 90)).setRow wr.heap.size #[.int .i64 x.1, .int .i64 x.2, .bool s, d] = w2 at hR hB ⊢; have z0 : w2.cell? ⟨wr.heap.size, 0, none⟩ = some (.int .i64 x.1) := cell_of_heap hR 0 _ rfl; have z1 : w2.cell? ⟨wr.heap.size, 1, none⟩ = some (.int .i64 x.2) := cell_of_heap hR 1 _ rfl)
      have HB2 := Lib.hid hB
      have s1 := kname_size x.1
      have s2 := kname_size x.2
      have hn1 : (9223372036854775807 < (kname x.1).size + 1) = False := eq_false (by omega)
      have hn2 : (9223372036854775807 < (kname x.1).size + 1 + (kname x.2).size) = False := eq_false (by omega)
      have j0 : (0 : Int) ≤ (j : Int) := Int.natCast_nonneg _
      have j1 : (j : Int) < 12 := by omega
      have e1 : IntKind.i64.wrap (8 * x.1) = 8 * x.1 := IntWalk.i64_in _ (by omega)
      have e2 : IntKind.i64.wrap (8 * x.1 + x.2) = 8 * x.1 + x.2 := IntWalk.i64_in _ (by omega)
      have e3 : IntKind.i64.wrap ((j : Int) + 1) = (j : Int) + 1 := IntWalk.i64_in _ (by omega)
      clear hR hB c0 c1 c2 c3 s1 s2
      refine start_ (n := 20) (S := fun w' => w'.cell? ⟨wr.heap.size, 0, none⟩ = some (.int .i64 x.1) ∧ w'.cell? ⟨wr.heap.size, 1, none⟩ = some (.int .i64 x.2)) (ds := [19]) #[false, false, false, false, false, false, false, false, false, false, false, false, false, false, false, false, false, false, false, false] (by kernel_rfl) rfl rfl ⟨z0, z1⟩ (fun hHeld => ?_)
      refine with_tabW made5.tab5 made5.bits5 (fun HT_ HW_ => ?_)
      refine pure_ (i := 0) (N := some 11) (v := ?_) (a' := ?_) #[true, false, false, false, false, false, false, false, false, false, false, false, false, false, false, false, false, false, false, false] rfl rfl (any_of HT_.out (by kernel_rfl)) (fun _ _ _ h => h) (Or.inl ⟨by rfl, ?_⟩) ?_ ?_
      rotate_left
      · intro w'
        go_simp
        with_reducible rfl
      rotate_left
      · simp only [Act.put, List.setIfInBounds_toArray, List.set_cons_zero, List.set_cons_succ, i64_w, i32_w]
        rfl
      refine pure_ (i := 1) (N := some 12) (v := ?_) (a' := ?_) #[true, true, false, false, false, false, false, false, false, false, false, false, false, false, false, false, false, false, false, false] rfl rfl (any_of HT_.out (by kernel_rfl)) (fun _ _ _ h => h) (Or.inl ⟨by rfl, ?_⟩) ?_ ?_
      rotate_left
      · intro w'
        go_simp
        with_reducible rfl
      rotate_left
      · simp only [Act.put, List.setIfInBounds_toArray, List.set_cons_zero, List.set_cons_succ, i64_w, i32_w]
        rfl
      refine pure_ (i := 2) (N := some 13) (v := ?_) (a' := ?_) #[true, true, true, false, false, false, false, false, false, false, false, false, false, false, false, false, false, false, false, false] rfl rfl (any_of HT_.out (by kernel_rfl)) (fun _ _ _ h => h) (Or.inl ⟨by rfl, ?_⟩) ?_ ?_
      rotate_left
      · intro w'
        go_simp
        with_reducible rfl
      rotate_left
      · simp only [Act.put, List.setIfInBounds_toArray, List.set_cons_zero, List.set_cons_succ, i64_w, i32_w]
        rfl
      refine pure_ (i := 3) (N := some 14) (v := ?_) (a' := ?_) #[true, true, true, true, false, false, false, false, false, false, false, false, false, false, false, false, false, false, false, false] rfl rfl (any_of HT_.out (by kernel_rfl)) (fun _ _ _ h => h) (Or.inl ⟨by rfl, ?_⟩) ?_ ?_
      rotate_left
      · intro w'
        go_simp
        with_reducible rfl
      rotate_left
      · simp only [Act.put, List.setIfInBounds_toArray, List.set_cons_zero, List.set_cons_succ, i64_w, i32_w]
        rfl
      refine pure_ (i := 7) (N := some 18) (v := ?_) (a' := ?_) #[true, true, true, true, false, false, false, true, false, false, false, false, false, false, false, false, false, false, false, false] rfl rfl (any_of HT_.out (by kernel_rfl)) (fun _ _ _ h => h) (Or.inl ⟨by rfl, ?_⟩) ?_ ?_
      rotate_left
      · intro w'
        go_simp
        with_reducible rfl
      rotate_left
      · simp only [Act.put, List.setIfInBounds_toArray, List.set_cons_zero, List.set_cons_succ, i64_w, i32_w]
        rfl
      refine pure_ (i := 11) (N := some 22) (v := ?_) (a' := ?_) #[true, true, true, true, false, false, false, true, false, false, false, true, false, false, false, false, false, false, false, false] rfl rfl (any_of HT_.out (by kernel_rfl)) (fun _ _ _ h => h) (Or.inl ⟨by rfl, ?_⟩) ?_ ?_
      rotate_left
      · intro w'
        go_simp
        with_reducible rfl
      rotate_left
      · simp only [Act.put, List.setIfInBounds_toArray, List.set_cons_zero, List.set_cons_succ, i64_w, i32_w]
        rfl
      refine pure_ (i := 14) (N := some 25) (v := ?_) (a' := ?_) #[true, true, true, true, false, false, false, true, false, false, false, true, false, false, true, false, false, false, false, false] rfl rfl (any_of HT_.out (by kernel_rfl)) (fun _ _ _ h => h) (Or.inl ⟨by rfl, ?_⟩) ?_ ?_
      rotate_left
      · intro w'
        go_simp
        with_reducible rfl
      rotate_left
      · simp only [Act.put, List.setIfInBounds_toArray, List.set_cons_zero, List.set_cons_succ, i64_w, i32_w]
        rfl
      refine take_ (i := 4) (N := some 15) (v := ?_) (a' := ?_) #[true, true, true, true, true, false, false, true, false, false, false, true, false, false, true, false, false, false, false, false] rfl rfl (take_ofW HT_.out HW_.out (by kernel_rfl)) (fun _ _ _ h => h) (Or.inl ⟨by rfl, ?_⟩) hHeld ?_ ?_
      rotate_left
      · rintro w' ⟨s0, s1⟩
        go_simp
        with_reducible rfl
      rotate_left
      · simp only [Act.put, List.setIfInBounds_toArray, List.set_cons_zero, List.set_cons_succ, i64_w, i32_w]
        rfl
      refine take_ (i := 8) (N := some 19) (v := ?_) (a' := ?_) #[true, true, true, true, true, false, false, true, true, false, false, true, false, false, true, false, false, false, false, false] rfl rfl (take_ofW HT_.out HW_.out (by kernel_rfl)) (fun _ _ _ h => h) (Or.inl ⟨by rfl, ?_⟩) hHeld ?_ ?_
      rotate_left
      · rintro w' ⟨s0, s1⟩
        go_simp
        with_reducible rfl
      rotate_left
      · simp only [Act.put, List.setIfInBounds_toArray, List.set_cons_zero, List.set_cons_succ, i64_w, i32_w]
        rfl
      refine take_ (i := 12) (N := some 23) (v := ?_) (a' := ?_) #[true, true, true, true, true, false, false, true, true, false, false, true, true, false, true, false, false, false, false, false] rfl rfl (take_ofW HT_.out HW_.out (by kernel_rfl)) (fun _ _ _ h => h) (Or.inl ⟨by rfl, ?_⟩) hHeld ?_ ?_
      rotate_left
      · rintro w' ⟨s0, s1⟩
        go_simp
        with_reducible rfl
      rotate_left
      · simp only [Act.put, List.setIfInBounds_toArray, List.set_cons_zero, List.set_cons_succ, i64_w, i32_w]
        rfl
      refine pure_ (i := 13) (N := some 24) (v := ?_) (a' := ?_) #[true, true, true, true, true, false, false, true, true, false, false, true, true, true, true, false, false, false, false, false] rfl rfl (any_of HT_.out (by kernel_rfl)) (fun _ _ _ h => h) (Or.inl ⟨by rfl, ?_⟩) ?_ ?_
      rotate_left
      · intro w'
        go_simp
        with_reducible rfl
      rotate_left
      · simp only [Act.put, List.setIfInBounds_toArray, List.set_cons_zero, List.set_cons_succ, i64_w, i32_w]
        rfl
      refine take_ (i := 15) (N := some 26) (v := ?_) (a' := ?_) #[true, true, true, true, true, false, false, true, true, false, false, true, true, true, true, true, false, false, false, false] rfl rfl (take_ofW HT_.out HW_.out (by kernel_rfl)) (fun _ _ _ h => h) (Or.inl ⟨by rfl, ?_⟩) hHeld ?_ ?_
      rotate_left
      · rintro w' ⟨s0, s1⟩
        go_simp
        with_reducible rfl
      rotate_left
      · simp only [Act.put, List.setIfInBounds_toArray, List.set_cons_zero, List.set_cons_succ, i64_w, i32_w]
        rfl
      refine pure_ (i := 16) (N := some 27) (v := ?_) (a' := ?_) #[true, true, true, true, true, false, false, true, true, false, false, true, true, true, true, true, true, false, false, false] rfl rfl (any_of HT_.out (by kernel_rfl)) (fun _ _ _ h => h) (Or.inl ⟨by rfl, ?_⟩) ?_ ?_
      rotate_left
      · intro w'
        go_simp
        with_reducible rfl
      rotate_left
      · simp only [Act.put, List.setIfInBounds_toArray, List.set_cons_zero, List.set_cons_succ, i64_w, i32_w]
        rfl
      refine one_ (i := 5) (N := some 16) #[true, true, true, true, true, true, false, true, true, false, false, true, true, true, true, true, true, false, false, false] rfl rfl (one_of HT_.out (by kernel_rfl)) (by decide) (fun K hK => ?_)
      refine goes_ Tryz.func69 (by kernel_rfl) rfl #[.int .i64 x.1] (by rfl) rfl rfl (by simp only [List.map_toArray, List.map_cons, List.map_nil]; rfl) ?_
      with_reducible refine (kname_any x.1 _).mono ?_
      rintro e w3 ⟨rfl, hbw3⟩
      refine ⟨_, rfl, ?_⟩
      refine hK.out _ _ ⟨pw_cell_below hbw3 hHeld.1, pw_cell_below hbw3 hHeld.2⟩ (fun hHeld => ?_)
      clear hK K
      refine norm_ (a' := ?_) ?_ ?_
      rotate_left
      · show Act.put _ (some 16) _ = _
        simp only [Act.put, List.setIfInBounds_toArray, List.set_cons_zero, List.set_cons_succ, i64_w, i32_w]
        rfl
      refine pure_ (i := 6) (N := some 17) (v := ?_) (a' := ?_) #[true, true, true, true, true, true, true, true, true, false, false, true, true, true, true, true, true, false, false, false] rfl rfl (any_of HT_.out (by kernel_rfl)) (fun _ _ _ h => h) (Or.inl ⟨by rfl, ?_⟩) ?_ ?_
      rotate_left
      · intro w'
        go_simp
        with_reducible rfl
      rotate_left
      · simp only [Act.put, List.setIfInBounds_toArray, List.set_cons_zero, List.set_cons_succ, i64_w, i32_w]
        rfl
      refine one_ (i := 9) (N := some 20) #[true, true, true, true, true, true, true, true, true, true, false, true, true, true, true, true, true, false, false, false] rfl rfl (one_of HT_.out (by kernel_rfl)) (by decide) (fun K hK => ?_)
      refine goes_ Tryz.func69 (by kernel_rfl) rfl #[.int .i64 x.2] (by rfl) rfl rfl (by simp only [List.map_toArray, List.map_cons, List.map_nil]; rfl) ?_
      with_reducible refine (kname_any x.2 _).mono ?_
      rintro e w4 ⟨rfl, hbw4⟩
      refine ⟨_, rfl, ?_⟩
      refine hK.out _ _ ⟨pw_cell_below hbw4 hHeld.1, pw_cell_below hbw4 hHeld.2⟩ (fun hHeld => ?_)
      clear hK K
      refine norm_ (a' := ?_) ?_ ?_
      rotate_left
      · show Act.put _ (some 20) _ = _
        simp only [Act.put, List.setIfInBounds_toArray, List.set_cons_zero, List.set_cons_succ, i64_w, i32_w]
        rfl
      refine pure_ (i := 10) (N := some 21) (v := ?_) (a' := ?_) #[true, true, true, true, true, true, true, true, true, true, true, true, true, true, true, true, true, false, false, false] rfl rfl (any_of HT_.out (by kernel_rfl)) (fun _ _ _ h => h) (Or.inl ⟨by rfl, ?_⟩) ?_ ?_
      rotate_left
      · intro w'
        go_simp
        with_reducible rfl
      rotate_left
      · simp only [Act.put, List.setIfInBounds_toArray, List.set_cons_zero, List.set_cons_succ, i64_w, i32_w]
        rfl
      refine pure_ (i := 17) (N := some 28) (v := ?_) (a' := ?_) #[true, true, true, true, true, true, true, true, true, true, true, true, true, true, true, true, true, true, false, false] rfl rfl (any_of HT_.out (by kernel_rfl)) (fun _ _ _ h => h) (Or.inl ⟨by rfl, ?_⟩) ?_ ?_
      rotate_left
      · intro w'
        go_simp
        with_reducible rfl
      rotate_left
      · simp only [Act.put, List.setIfInBounds_toArray, List.set_cons_zero, List.set_cons_succ, i64_w, i32_w]
        rfl
      refine pure_ (i := 18) (N := some 29) (v := ?_) (a' := ?_) #[true, true, true, true, true, true, true, true, true, true, true, true, true, true, true, true, true, true, true, false] rfl rfl (any_of HT_.out (by kernel_rfl)) (fun _ _ _ h => h) (Or.inl ⟨by rfl, ?_⟩) ?_ ?_
      rotate_left
      · intro w'
        go_simp
        with_reducible rfl
      rotate_left
      · simp only [Act.put, List.setIfInBounds_toArray, List.set_cons_zero, List.set_cons_succ, i64_w, i32_w]
        rfl
      refine last_ (i := 19) (N := none) #[true, true, true, true, true, true, true, true, true, true, true, true, true, true, true, true, true, true, true, true] rfl rfl (one_of HT_.out (by kernel_rfl)) (by decide) (fun K hK => ?_)
      have hB4 := below_then (below_drew HB2.out) (below_drew HB2.out).size (below_then hbw3 hbw3.size hbw4)
      have p1 := (hB4.block _ l1).trans HR.out.2.1
      have p0 := (hB4.block _ (Nat.lt_of_succ_lt l1)).trans HR.out.1
      have pg := (hB4.block _ lg).trans HR.out.2.2.1
      have pW := below_then HR.out.2.2.2.1 HR.out.2.2.2.1.size hB4
      rw [if_pos (by rfl)]
      refine wp_store_mid 34 _ _ rfl (w.heap.size + 1) (j * 4) #[.int .i64 2, .int .i64 ((j : Int) + 1), .string (kname x.1 ++ ⟨#[45]⟩ ++ kname x.2), .int .i64 (8 * x.1 + x.2)] (by first | rfl | simp [Act.eval]) (by first | rfl | simp [Act.eval]) (there_of p1 (j * 4) 4 (by rw [HF.out.2]; omega)) (by kernel_rfl) (by simp [Value.oneCell']) ?_
      have hX : MadeRel w w1 g (j + 1) (w4.setCells (w.heap.size + 1) (j * 4) [.int .i64 2, .int .i64 ((j : Int) + 1), .string (kname x.1 ++ ⟨#[45]⟩ ++ kname x.2), .int .i64 (8 * x.1 + x.2)]) := ⟨(set4_far _ _ _ _ _ _ _ _ (by omega)).trans p0, (set4_heap p1 (j * 4) _ _ _ _).trans (by rw [HF.out.1]), (set4_far _ _ _ _ _ _ _ _ (by omega)).trans pg, set4_below pW _ _ _ _ _ _ (by omega), by rw [set4_size]; exact Nat.le_trans HR.out.2.2.2.2 hB4.size⟩
      clear p0 p1 pg pW hB4
      refine hK.out _ _ ?_
      clear hK K
      refine done_ (done_of HT_.out (by kernel_rfl)) ?_

      have HX := Lib.hid hX
      clear hX
      go_wp2
      go_roundw
      case rel => exact ⟨j + 1, by omega, by go_num, HX.out⟩
      case measure => simp [RowKit.intOf]; omega
    · as_aux_lemma =>
      obtain rfl : j = 12 := by omega
      obtain ⟨o0, o1, _, hW, _⟩ := HR.out
      go_wp2_with (first
        | (refine wpList_load_row rfl 74 (.tmp 1) rfl (w.heap.size + 1) rfl 74 (fillL convEs 12) (0, 0) _ o1 Tryz.underlying74 rfl (by kernel_rfl) ?_)
        | (refine wpList_store_row rfl 74 (.tmp 0) (.tmp 31) rfl w.heap.size (fillL convEs 12) rfl rfl 74 (fillL convEs 0) o0 (by kernel_rfl) (by kernel_rfl) (by kernel_rfl) ?_))
      exact bodyPost_ret (results_cell_row rfl _ _ w.heap.size 74 (fillL convEs 12) (0, 0) _ rfl (setRow_heap _ _ _ _ _ _ o0) Tryz.underlying74 rfl (by kernel_rfl)) rfl ⟨rfl, below_setRow hW (Nat.le_refl _) _⟩
set_option maxRecDepth 100000 in
set_option maxHeartbeats 1000000 in
/-- conv.Entries: a new row of the twelve entries. -/
theorem centries_any (w : World) : Calls Tryz.prog 24 #[] w fun e w' => ∃ g, e = .returned (.slice (some ⟨g, 0, none⟩) 12 12) ∧ w.heap.size ≤ g ∧ w'.heap[g]? = some (.cells (fillL convEs 12) 74 (0, 0)) ∧ Below w.heap.size w w' := by
  go_enter Tryz.func24, Tryz.ntmps24
  go_wp2_with (first
    | (go_at_call 56; refine (made_any _).mono ?_; rintro e w1 ⟨rfl, hb⟩; have hA := heap_last w1 (.cells (fillL convEs 0) 74))
    | (refine wpList_store_row rfl 74 (.tmp 1) (.tmp 2) rfl w1.heap.size (fillL convEs 12) rfl rfl 74 (fillL convEs 0) hA (by kernel_rfl) (by kernel_rfl) (by kernel_rfl) ?_; have hR := heap_row w1 (fillL convEs 0) (fillL convEs 12) 74; have hB := below_row hb (.cells (fillL convEs 0) 74) (fillL convEs 12)))
  go_ret
  exact ⟨w1.heap.size, rfl, hb.size, hR, hB⟩
end Go.Proofs.YtpmebnkjcekmmaaGreatDoor
