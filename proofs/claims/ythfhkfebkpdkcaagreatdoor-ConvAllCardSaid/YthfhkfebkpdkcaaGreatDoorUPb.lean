/- conv.Apply, way by way, for every value, where the world is laid. -/
import Derived.Test.YthfhkfebkpdkcaaGreatDoorUPa
namespace Go.Proofs.YthfhkfebkpdkcaaGreatDoor
open Go.RowKit Go.Lib

structure ApBlk (w w1 : World) (cs : Array Value) : Prop where
  box : w1.heap[w.heap.size]? = some (.cells cs 27 (0, 0))
  at_ : w1.heap[w.heap.size + 1]? = some (.cells valZ 27 (0, 0))
  below : Below w.heap.size w w1
theorem apBlk_start (w : World) (cs : Array Value) : ApBlk w ((w.alloc (.cells cs 27)).alloc (.cells valZ 27)) cs :=
  ⟨box_start w _ _, (resBlk_start w _).at_, (resBlk_start w _).below⟩
theorem apBlk_below {w w1 w2 : World} {cs : Array Value} (h : ApBlk w w1 cs) (hb : Below w1.heap.size w1 w2) : ApBlk w w2 cs :=
  ⟨(hb.block _ (heap_lt h.box)).trans h.box, (hb.block _ (heap_lt h.at_)).trans h.at_, h.below.trans (hb.mono h.below.size)⟩

set_option maxRecDepth 100000 in
set_option maxHeartbeats 2000000 in
theorem apply_none (k n : Int) (s : ByteArray) (w : World) (x : Int) (hof : OfIs x (0, 0, false, .nilFunc, false)) : Calls Tryz.prog 11 #[.int .i64 x, .agg #[.int .i64 k, .int .u64 n, .string s]] w fun e w' => e = .returned (.tuple #[.agg valZ, .int .i64 1]) ∧ Below w.heap.size w w' := by
  have A0 := apBlk_start w #[.int .i64 k, .int .u64 n, .string s]
  have OF := Lib.hid hof
  clear hof
  go_enter Tryz.func11, Tryz.ntmps11
  go_wp2_with (first
    | (go_at_call 27; refine (OF.out _).mono ?_; rintro e w1 ⟨rfl, hb1⟩; have A1 := apBlk_below A0 hb1; have hZ := heap_last w1 (.cells #[.int .i64 0, .int .i64 0, .bool false, .nilFunc] 47))
    | (refine wpList_store_row rfl 47 (.tmp 6) (.tmp 11) rfl w1.heap.size #[.int .i64 0, .int .i64 0, .bool false, .nilFunc] rfl rfl 47 _ hZ (by kernel_rfl) rfl (by kernel_rfl) ?_; have hR := heap_row w1 #[.int .i64 0, .int .i64 0, .bool false, .nilFunc] #[.int .i64 0, .int .i64 0, .bool false, .nilFunc] 47; have hB := below_row (Below.refl _ w1) (.cells #[.int .i64 0, .int .i64 0, .bool false, .nilFunc] 47) #[.int .i64 0, .int .i64 0, .bool false, .nilFunc]; generalize (w1.alloc (.cells #[.int .i64 0, .int .i64 0, .bool false, .nilFunc] 47)).setRow w1.heap.size #[.int .i64 0, .int .i64 0, .bool false, .nilFunc] = w2 at hR hB ⊢; have A2 := apBlk_below A1 hB; have b0 := cell_of_heap A2.box 0 _ rfl; have b1 := cell_of_heap A2.box 1 _ rfl; have b2 := cell_of_heap A2.box 2 _ rfl)
    | (go_at_call 28; refine (failed_any _ _).mono ?_; rintro e w3 ⟨rfl, hb3⟩; have A3 := apBlk_below A2 hb3)
    | (refine wpList_store_row rfl 27 (.tmp 4) (.tmp 28) rfl (w.heap.size + 1) valZ rfl rfl 27 valZ A3.at_ (by kernel_rfl) rfl (by kernel_rfl) ?_))
  exact bodyPost_ret (results_row_tmp rfl _ _ (w.heap.size + 1) 27 valZ (0, 0) _ rfl (setRow_heap _ _ _ _ _ _ A3.at_) Tryz.underlying27 rfl (by kernel_rfl)) rfl ⟨rfl, below_setRow A3.below (by omega) _⟩

set_option maxRecDepth 100000 in
set_option maxHeartbeats 2000000 in
theorem apply_bad (k n : Int) (s : ByteArray) (w : World) (x : Int) (d : Int × Int × Bool × Value × Bool) (hof : OfIs x d) (hd : d.2.2.2.2 = true) (ho : (#[.int .i64 d.1, .int .i64 d.2.1, .bool d.2.2.1, d.2.2.2.1] : Array Value).all (·.oneCell') = true) (hv : ∀ w, Calls Tryz.prog 13 #[.agg #[.int .i64 k, .int .u64 n, .string s]] w fun e w' => e = .returned (.bool false) ∧ Below w.heap.size w w') : Calls Tryz.prog 11 #[.int .i64 x, .agg #[.int .i64 k, .int .u64 n, .string s]] w fun e w' => e = .returned (.tuple #[.agg valZ, .int .i64 1]) ∧ Below w.heap.size w w' := by
  have A0 := apBlk_start w #[.int .i64 k, .int .u64 n, .string s]
  have OF := Lib.hid hof
  have HO := Lib.hid ho
  have VH := Lib.hid hv
  clear hof ho hv
  go_enter Tryz.func11, Tryz.ntmps11
  go_wp2_with (first
    | (go_at_call 27; refine (OF.out _).mono ?_; rintro e w1 ⟨rfl, hb1⟩; have A1 := apBlk_below A0 hb1; have hZ := heap_last w1 (.cells #[.int .i64 0, .int .i64 0, .bool false, .nilFunc] 47))
    | (refine wpList_store_row rfl 47 (.tmp 6) (.tmp 11) rfl w1.heap.size #[.int .i64 d.1, .int .i64 d.2.1, .bool d.2.2.1, d.2.2.2.1] rfl rfl 47 _ hZ (by kernel_rfl) rfl HO.out ?_; have hR := heap_row w1 #[.int .i64 0, .int .i64 0, .bool false, .nilFunc] #[.int .i64 d.1, .int .i64 d.2.1, .bool d.2.2.1, d.2.2.2.1] 47; have hB := below_row (Below.refl _ w1) (.cells #[.int .i64 0, .int .i64 0, .bool false, .nilFunc] 47) #[.int .i64 d.1, .int .i64 d.2.1, .bool d.2.2.1, d.2.2.2.1]; generalize (w1.alloc (.cells #[.int .i64 0, .int .i64 0, .bool false, .nilFunc] 47)).setRow w1.heap.size #[.int .i64 d.1, .int .i64 d.2.1, .bool d.2.2.1, d.2.2.2.1] = w2 at hR hB ⊢; have A2 := apBlk_below A1 hB; have b0 := cell_of_heap A2.box 0 _ rfl; have b1 := cell_of_heap A2.box 1 _ rfl; have b2 := cell_of_heap A2.box 2 _ rfl)
    | (go_at_call 13; refine (VH.out _).mono ?_; rintro e w3 ⟨rfl, hb3⟩; have A3 := apBlk_below A2 hb3; have hR3 : w3.heap[w1.heap.size]? = _ := (hb3.block _ (heap_lt hR)).trans hR; have b0' := cell_of_heap A3.box 0 _ rfl; have b1' := cell_of_heap A3.box 1 _ rfl; have b2' := cell_of_heap A3.box 2 _ rfl; have z0 : w3.cell? ⟨w1.heap.size, 0, none⟩ = some (.int .i64 d.1) := cell_of_heap hR3 0 _ rfl)
    | (go_at_call 28; refine (failed_any _ _).mono ?_; rintro e w4 ⟨rfl, hb4⟩; have A4 := apBlk_below A3 hb4)
    | (refine wpList_store_row rfl 27 (.tmp 4) (.tmp 28) rfl (w.heap.size + 1) valZ rfl rfl 27 valZ A4.at_ (by kernel_rfl) rfl (by kernel_rfl) ?_))
  exact bodyPost_ret (results_row_tmp rfl _ _ (w.heap.size + 1) 27 valZ (0, 0) _ rfl (setRow_heap _ _ _ _ _ _ A4.at_) Tryz.underlying27 rfl (by kernel_rfl)) rfl ⟨rfl, below_setRow A4.below (by omega) _⟩

set_option maxRecDepth 100000 in
set_option maxHeartbeats 2000000 in
theorem apply_kind (k n : Int) (s : ByteArray) (w : World) (x : Int) (d : Int × Int × Bool × Value × Bool) (hof : OfIs x d) (hd : d.2.2.2.2 = true) (ho : (#[.int .i64 d.1, .int .i64 d.2.1, .bool d.2.2.1, d.2.2.2.1] : Array Value).all (·.oneCell') = true) (hv : ∀ w, Calls Tryz.prog 13 #[.agg #[.int .i64 k, .int .u64 n, .string s]] w fun e w' => e = .returned (.bool true) ∧ Below w.heap.size w w') (hk : (k != d.1) = true) : Calls Tryz.prog 11 #[.int .i64 x, .agg #[.int .i64 k, .int .u64 n, .string s]] w fun e w' => e = .returned (.tuple #[.agg valZ, .int .i64 1]) ∧ Below w.heap.size w w' := by
  have A0 := apBlk_start w #[.int .i64 k, .int .u64 n, .string s]
  have OF := Lib.hid hof
  have HO := Lib.hid ho
  have VH := Lib.hid hv
  clear hof ho hv
  go_enter Tryz.func11, Tryz.ntmps11
  go_wp2_with (first
    | (go_at_call 27; refine (OF.out _).mono ?_; rintro e w1 ⟨rfl, hb1⟩; have A1 := apBlk_below A0 hb1; have hZ := heap_last w1 (.cells #[.int .i64 0, .int .i64 0, .bool false, .nilFunc] 47))
    | (refine wpList_store_row rfl 47 (.tmp 6) (.tmp 11) rfl w1.heap.size #[.int .i64 d.1, .int .i64 d.2.1, .bool d.2.2.1, d.2.2.2.1] rfl rfl 47 _ hZ (by kernel_rfl) rfl HO.out ?_; have hR := heap_row w1 #[.int .i64 0, .int .i64 0, .bool false, .nilFunc] #[.int .i64 d.1, .int .i64 d.2.1, .bool d.2.2.1, d.2.2.2.1] 47; have hB := below_row (Below.refl _ w1) (.cells #[.int .i64 0, .int .i64 0, .bool false, .nilFunc] 47) #[.int .i64 d.1, .int .i64 d.2.1, .bool d.2.2.1, d.2.2.2.1]; generalize (w1.alloc (.cells #[.int .i64 0, .int .i64 0, .bool false, .nilFunc] 47)).setRow w1.heap.size #[.int .i64 d.1, .int .i64 d.2.1, .bool d.2.2.1, d.2.2.2.1] = w2 at hR hB ⊢; have A2 := apBlk_below A1 hB; have b0 := cell_of_heap A2.box 0 _ rfl; have b1 := cell_of_heap A2.box 1 _ rfl; have b2 := cell_of_heap A2.box 2 _ rfl)
    | (go_at_call 13; refine (VH.out _).mono ?_; rintro e w3 ⟨rfl, hb3⟩; have A3 := apBlk_below A2 hb3; have hR3 : w3.heap[w1.heap.size]? = _ := (hb3.block _ (heap_lt hR)).trans hR; have b0' := cell_of_heap A3.box 0 _ rfl; have b1' := cell_of_heap A3.box 1 _ rfl; have b2' := cell_of_heap A3.box 2 _ rfl; have z0 : w3.cell? ⟨w1.heap.size, 0, none⟩ = some (.int .i64 d.1) := cell_of_heap hR3 0 _ rfl)
    | (go_at_call 28; refine (failed_any _ _).mono ?_; rintro e w4 ⟨rfl, hb4⟩; have A4 := apBlk_below A3 hb4)
    | (refine wpList_store_row rfl 27 (.tmp 4) (.tmp 28) rfl (w.heap.size + 1) valZ rfl rfl 27 valZ A4.at_ (by kernel_rfl) rfl (by kernel_rfl) ?_))
  exact bodyPost_ret (results_row_tmp rfl _ _ (w.heap.size + 1) 27 valZ (0, 0) _ rfl (setRow_heap _ _ _ _ _ _ A4.at_) Tryz.underlying27 rfl (by kernel_rfl)) rfl ⟨rfl, below_setRow A4.below (by omega) _⟩

set_option maxRecDepth 100000 in
set_option maxHeartbeats 2000000 in
theorem apply_1 (k n : Int) (s : ByteArray) (w : World) (r1 r2 : Int) (r3 : ByteArray) (r4 : Int) (hL : Laid w) (hof : OfIs 1 (1, 2, false, .func (.func 66) #[] #[], true)) (hv : ∀ w, Calls Tryz.prog 13 #[.agg #[.int .i64 k, .int .u64 n, .string s]] w fun e w' => e = .returned (.bool true) ∧ Below w.heap.size w w') (hk : (k != 1) = false) (hdo : DoIs 66 k n s (r1, r2, r3, r4)) : Calls Tryz.prog 11 #[.int .i64 1, .agg #[.int .i64 k, .int .u64 n, .string s]] w fun e w' => e = .returned (.tuple #[.agg #[.int .i64 r1, .int .u64 r2, .string r3], .int .i64 r4]) ∧ Below w.heap.size w w' := by
  have A0 := apBlk_start w #[.int .i64 k, .int .u64 n, .string s]
  have OF := Lib.hid hof
  have VH := Lib.hid hv
  have HL := Lib.hid hL
  have HD := Lib.hid hdo
  clear hof hv hL hdo
  go_enter Tryz.func11, Tryz.ntmps11
  go_wp2_with (first
    | (go_at_call 27; refine (OF.out _).mono ?_; rintro e w1 ⟨rfl, hb1⟩; have A1 := apBlk_below A0 hb1; have hZ := heap_last w1 (.cells #[.int .i64 0, .int .i64 0, .bool false, .nilFunc] 47))
    | (refine wpList_store_row rfl 47 (.tmp 6) (.tmp 11) rfl w1.heap.size #[.int .i64 1, .int .i64 2, .bool false, .func (.func 66) #[] #[]] rfl rfl 47 _ hZ (by kernel_rfl) rfl (by kernel_rfl) ?_; have hR := heap_row w1 #[.int .i64 0, .int .i64 0, .bool false, .nilFunc] #[.int .i64 1, .int .i64 2, .bool false, .func (.func 66) #[] #[]] 47; have hB := below_row (Below.refl _ w1) (.cells #[.int .i64 0, .int .i64 0, .bool false, .nilFunc] 47) #[.int .i64 1, .int .i64 2, .bool false, .func (.func 66) #[] #[]]; generalize (w1.alloc (.cells #[.int .i64 0, .int .i64 0, .bool false, .nilFunc] 47)).setRow w1.heap.size #[.int .i64 1, .int .i64 2, .bool false, .func (.func 66) #[] #[]] = w2 at hR hB ⊢; have A2 := apBlk_below A1 hB; have b0 := cell_of_heap A2.box 0 _ rfl; have b1 := cell_of_heap A2.box 1 _ rfl; have b2 := cell_of_heap A2.box 2 _ rfl)
    | (go_at_call 13; refine (VH.out _).mono ?_; rintro e w3 ⟨rfl, hb3⟩; have A3 := apBlk_below A2 hb3; have hR3 : w3.heap[w1.heap.size]? = _ := (hb3.block _ (heap_lt hR)).trans hR; have b0' := cell_of_heap A3.box 0 _ rfl; have b1' := cell_of_heap A3.box 1 _ rfl; have b2' := cell_of_heap A3.box 2 _ rfl; have z0 : w3.cell? ⟨w1.heap.size, 0, none⟩ = some (.int .i64 1) := cell_of_heap hR3 0 _ rfl; have z3 : w3.cell? ⟨w1.heap.size, 3, none⟩ = some (.func (.func 66) #[] #[]) := cell_of_heap hR3 3 _ rfl; have L3 := Lib.hid (laid_below HL.out A3.below))
    | (go_at_call 66; refine (HD.out _ L3.out).mono ?_; rintro e w4 ⟨rfl, hb4⟩; have A4 := apBlk_below A3 hb4)
    | (refine wpList_store_row rfl 27 (.tmp 4) (.tmp 34) rfl (w.heap.size + 1) #[.int .i64 r1, .int .u64 r2, .string r3] rfl rfl 27 valZ A4.at_ (by kernel_rfl) rfl (by kernel_rfl) ?_))
  exact bodyPost_ret (results_row_tmp rfl _ _ (w.heap.size + 1) 27 #[.int .i64 r1, .int .u64 r2, .string r3] (0, 0) _ rfl (setRow_heap _ _ _ _ _ _ A4.at_) Tryz.underlying27 rfl (by kernel_rfl)) rfl ⟨rfl, below_setRow A4.below (by omega) _⟩

set_option maxRecDepth 100000 in
set_option maxHeartbeats 2000000 in
theorem apply_2 (k n : Int) (s : ByteArray) (w : World) (r1 r2 : Int) (r3 : ByteArray) (r4 : Int) (hL : Laid w) (hof : OfIs 2 (2, 1, false, .func (.func 68) #[] #[], true)) (hv : ∀ w, Calls Tryz.prog 13 #[.agg #[.int .i64 k, .int .u64 n, .string s]] w fun e w' => e = .returned (.bool true) ∧ Below w.heap.size w w') (hk : (k != 2) = false) (hdo : DoIs 68 k n s (r1, r2, r3, r4)) : Calls Tryz.prog 11 #[.int .i64 2, .agg #[.int .i64 k, .int .u64 n, .string s]] w fun e w' => e = .returned (.tuple #[.agg #[.int .i64 r1, .int .u64 r2, .string r3], .int .i64 r4]) ∧ Below w.heap.size w w' := by
  have A0 := apBlk_start w #[.int .i64 k, .int .u64 n, .string s]
  have OF := Lib.hid hof
  have VH := Lib.hid hv
  have HL := Lib.hid hL
  have HD := Lib.hid hdo
  clear hof hv hL hdo
  go_enter Tryz.func11, Tryz.ntmps11
  go_wp2_with (first
    | (go_at_call 27; refine (OF.out _).mono ?_; rintro e w1 ⟨rfl, hb1⟩; have A1 := apBlk_below A0 hb1; have hZ := heap_last w1 (.cells #[.int .i64 0, .int .i64 0, .bool false, .nilFunc] 47))
    | (refine wpList_store_row rfl 47 (.tmp 6) (.tmp 11) rfl w1.heap.size #[.int .i64 2, .int .i64 1, .bool false, .func (.func 68) #[] #[]] rfl rfl 47 _ hZ (by kernel_rfl) rfl (by kernel_rfl) ?_; have hR := heap_row w1 #[.int .i64 0, .int .i64 0, .bool false, .nilFunc] #[.int .i64 2, .int .i64 1, .bool false, .func (.func 68) #[] #[]] 47; have hB := below_row (Below.refl _ w1) (.cells #[.int .i64 0, .int .i64 0, .bool false, .nilFunc] 47) #[.int .i64 2, .int .i64 1, .bool false, .func (.func 68) #[] #[]]; generalize (w1.alloc (.cells #[.int .i64 0, .int .i64 0, .bool false, .nilFunc] 47)).setRow w1.heap.size #[.int .i64 2, .int .i64 1, .bool false, .func (.func 68) #[] #[]] = w2 at hR hB ⊢; have A2 := apBlk_below A1 hB; have b0 := cell_of_heap A2.box 0 _ rfl; have b1 := cell_of_heap A2.box 1 _ rfl; have b2 := cell_of_heap A2.box 2 _ rfl)
    | (go_at_call 13; refine (VH.out _).mono ?_; rintro e w3 ⟨rfl, hb3⟩; have A3 := apBlk_below A2 hb3; have hR3 : w3.heap[w1.heap.size]? = _ := (hb3.block _ (heap_lt hR)).trans hR; have b0' := cell_of_heap A3.box 0 _ rfl; have b1' := cell_of_heap A3.box 1 _ rfl; have b2' := cell_of_heap A3.box 2 _ rfl; have z0 : w3.cell? ⟨w1.heap.size, 0, none⟩ = some (.int .i64 2) := cell_of_heap hR3 0 _ rfl; have z3 : w3.cell? ⟨w1.heap.size, 3, none⟩ = some (.func (.func 68) #[] #[]) := cell_of_heap hR3 3 _ rfl; have L3 := Lib.hid (laid_below HL.out A3.below))
    | (go_at_call 68; refine (HD.out _ L3.out).mono ?_; rintro e w4 ⟨rfl, hb4⟩; have A4 := apBlk_below A3 hb4)
    | (refine wpList_store_row rfl 27 (.tmp 4) (.tmp 34) rfl (w.heap.size + 1) #[.int .i64 r1, .int .u64 r2, .string r3] rfl rfl 27 valZ A4.at_ (by kernel_rfl) rfl (by kernel_rfl) ?_))
  exact bodyPost_ret (results_row_tmp rfl _ _ (w.heap.size + 1) 27 #[.int .i64 r1, .int .u64 r2, .string r3] (0, 0) _ rfl (setRow_heap _ _ _ _ _ _ A4.at_) Tryz.underlying27 rfl (by kernel_rfl)) rfl ⟨rfl, below_setRow A4.below (by omega) _⟩

set_option maxRecDepth 100000 in
set_option maxHeartbeats 2000000 in
theorem apply_3 (k n : Int) (s : ByteArray) (w : World) (r1 r2 : Int) (r3 : ByteArray) (r4 : Int) (hL : Laid w) (hof : OfIs 3 (1, 4, true, .func (.func 70) #[] #[], true)) (hv : ∀ w, Calls Tryz.prog 13 #[.agg #[.int .i64 k, .int .u64 n, .string s]] w fun e w' => e = .returned (.bool true) ∧ Below w.heap.size w w') (hk : (k != 1) = false) (hdo : DoIs 70 k n s (r1, r2, r3, r4)) : Calls Tryz.prog 11 #[.int .i64 3, .agg #[.int .i64 k, .int .u64 n, .string s]] w fun e w' => e = .returned (.tuple #[.agg #[.int .i64 r1, .int .u64 r2, .string r3], .int .i64 r4]) ∧ Below w.heap.size w w' := by
  have A0 := apBlk_start w #[.int .i64 k, .int .u64 n, .string s]
  have OF := Lib.hid hof
  have VH := Lib.hid hv
  have HL := Lib.hid hL
  have HD := Lib.hid hdo
  clear hof hv hL hdo
  go_enter Tryz.func11, Tryz.ntmps11
  go_wp2_with (first
    | (go_at_call 27; refine (OF.out _).mono ?_; rintro e w1 ⟨rfl, hb1⟩; have A1 := apBlk_below A0 hb1; have hZ := heap_last w1 (.cells #[.int .i64 0, .int .i64 0, .bool false, .nilFunc] 47))
    | (refine wpList_store_row rfl 47 (.tmp 6) (.tmp 11) rfl w1.heap.size #[.int .i64 1, .int .i64 4, .bool true, .func (.func 70) #[] #[]] rfl rfl 47 _ hZ (by kernel_rfl) rfl (by kernel_rfl) ?_; have hR := heap_row w1 #[.int .i64 0, .int .i64 0, .bool false, .nilFunc] #[.int .i64 1, .int .i64 4, .bool true, .func (.func 70) #[] #[]] 47; have hB := below_row (Below.refl _ w1) (.cells #[.int .i64 0, .int .i64 0, .bool false, .nilFunc] 47) #[.int .i64 1, .int .i64 4, .bool true, .func (.func 70) #[] #[]]; generalize (w1.alloc (.cells #[.int .i64 0, .int .i64 0, .bool false, .nilFunc] 47)).setRow w1.heap.size #[.int .i64 1, .int .i64 4, .bool true, .func (.func 70) #[] #[]] = w2 at hR hB ⊢; have A2 := apBlk_below A1 hB; have b0 := cell_of_heap A2.box 0 _ rfl; have b1 := cell_of_heap A2.box 1 _ rfl; have b2 := cell_of_heap A2.box 2 _ rfl)
    | (go_at_call 13; refine (VH.out _).mono ?_; rintro e w3 ⟨rfl, hb3⟩; have A3 := apBlk_below A2 hb3; have hR3 : w3.heap[w1.heap.size]? = _ := (hb3.block _ (heap_lt hR)).trans hR; have b0' := cell_of_heap A3.box 0 _ rfl; have b1' := cell_of_heap A3.box 1 _ rfl; have b2' := cell_of_heap A3.box 2 _ rfl; have z0 : w3.cell? ⟨w1.heap.size, 0, none⟩ = some (.int .i64 1) := cell_of_heap hR3 0 _ rfl; have z3 : w3.cell? ⟨w1.heap.size, 3, none⟩ = some (.func (.func 70) #[] #[]) := cell_of_heap hR3 3 _ rfl; have L3 := Lib.hid (laid_below HL.out A3.below))
    | (go_at_call 70; refine (HD.out _ L3.out).mono ?_; rintro e w4 ⟨rfl, hb4⟩; have A4 := apBlk_below A3 hb4)
    | (refine wpList_store_row rfl 27 (.tmp 4) (.tmp 34) rfl (w.heap.size + 1) #[.int .i64 r1, .int .u64 r2, .string r3] rfl rfl 27 valZ A4.at_ (by kernel_rfl) rfl (by kernel_rfl) ?_))
  exact bodyPost_ret (results_row_tmp rfl _ _ (w.heap.size + 1) 27 #[.int .i64 r1, .int .u64 r2, .string r3] (0, 0) _ rfl (setRow_heap _ _ _ _ _ _ A4.at_) Tryz.underlying27 rfl (by kernel_rfl)) rfl ⟨rfl, below_setRow A4.below (by omega) _⟩

set_option maxRecDepth 100000 in
set_option maxHeartbeats 2000000 in
theorem apply_4 (k n : Int) (s : ByteArray) (w : World) (r1 r2 : Int) (r3 : ByteArray) (r4 : Int) (hL : Laid w) (hof : OfIs 4 (2, 4, true, .func (.func 73) #[] #[], true)) (hv : ∀ w, Calls Tryz.prog 13 #[.agg #[.int .i64 k, .int .u64 n, .string s]] w fun e w' => e = .returned (.bool true) ∧ Below w.heap.size w w') (hk : (k != 2) = false) (hdo : DoIs 73 k n s (r1, r2, r3, r4)) : Calls Tryz.prog 11 #[.int .i64 4, .agg #[.int .i64 k, .int .u64 n, .string s]] w fun e w' => e = .returned (.tuple #[.agg #[.int .i64 r1, .int .u64 r2, .string r3], .int .i64 r4]) ∧ Below w.heap.size w w' := by
  have A0 := apBlk_start w #[.int .i64 k, .int .u64 n, .string s]
  have OF := Lib.hid hof
  have VH := Lib.hid hv
  have HL := Lib.hid hL
  have HD := Lib.hid hdo
  clear hof hv hL hdo
  go_enter Tryz.func11, Tryz.ntmps11
  go_wp2_with (first
    | (go_at_call 27; refine (OF.out _).mono ?_; rintro e w1 ⟨rfl, hb1⟩; have A1 := apBlk_below A0 hb1; have hZ := heap_last w1 (.cells #[.int .i64 0, .int .i64 0, .bool false, .nilFunc] 47))
    | (refine wpList_store_row rfl 47 (.tmp 6) (.tmp 11) rfl w1.heap.size #[.int .i64 2, .int .i64 4, .bool true, .func (.func 73) #[] #[]] rfl rfl 47 _ hZ (by kernel_rfl) rfl (by kernel_rfl) ?_; have hR := heap_row w1 #[.int .i64 0, .int .i64 0, .bool false, .nilFunc] #[.int .i64 2, .int .i64 4, .bool true, .func (.func 73) #[] #[]] 47; have hB := below_row (Below.refl _ w1) (.cells #[.int .i64 0, .int .i64 0, .bool false, .nilFunc] 47) #[.int .i64 2, .int .i64 4, .bool true, .func (.func 73) #[] #[]]; generalize (w1.alloc (.cells #[.int .i64 0, .int .i64 0, .bool false, .nilFunc] 47)).setRow w1.heap.size #[.int .i64 2, .int .i64 4, .bool true, .func (.func 73) #[] #[]] = w2 at hR hB ⊢; have A2 := apBlk_below A1 hB; have b0 := cell_of_heap A2.box 0 _ rfl; have b1 := cell_of_heap A2.box 1 _ rfl; have b2 := cell_of_heap A2.box 2 _ rfl)
    | (go_at_call 13; refine (VH.out _).mono ?_; rintro e w3 ⟨rfl, hb3⟩; have A3 := apBlk_below A2 hb3; have hR3 : w3.heap[w1.heap.size]? = _ := (hb3.block _ (heap_lt hR)).trans hR; have b0' := cell_of_heap A3.box 0 _ rfl; have b1' := cell_of_heap A3.box 1 _ rfl; have b2' := cell_of_heap A3.box 2 _ rfl; have z0 : w3.cell? ⟨w1.heap.size, 0, none⟩ = some (.int .i64 2) := cell_of_heap hR3 0 _ rfl; have z3 : w3.cell? ⟨w1.heap.size, 3, none⟩ = some (.func (.func 73) #[] #[]) := cell_of_heap hR3 3 _ rfl; have L3 := Lib.hid (laid_below HL.out A3.below))
    | (go_at_call 73; refine (HD.out _ L3.out).mono ?_; rintro e w4 ⟨rfl, hb4⟩; have A4 := apBlk_below A3 hb4)
    | (refine wpList_store_row rfl 27 (.tmp 4) (.tmp 34) rfl (w.heap.size + 1) #[.int .i64 r1, .int .u64 r2, .string r3] rfl rfl 27 valZ A4.at_ (by kernel_rfl) rfl (by kernel_rfl) ?_))
  exact bodyPost_ret (results_row_tmp rfl _ _ (w.heap.size + 1) 27 #[.int .i64 r1, .int .u64 r2, .string r3] (0, 0) _ rfl (setRow_heap _ _ _ _ _ _ A4.at_) Tryz.underlying27 rfl (by kernel_rfl)) rfl ⟨rfl, below_setRow A4.below (by omega) _⟩

set_option maxRecDepth 100000 in
set_option maxHeartbeats 2000000 in
theorem apply_5 (k n : Int) (s : ByteArray) (w : World) (r1 r2 : Int) (r3 : ByteArray) (r4 : Int) (hL : Laid w) (hof : OfIs 5 (4, 1, false, .func (.func 75) #[] #[], true)) (hv : ∀ w, Calls Tryz.prog 13 #[.agg #[.int .i64 k, .int .u64 n, .string s]] w fun e w' => e = .returned (.bool true) ∧ Below w.heap.size w w') (hk : (k != 4) = false) (hdo : DoIs 75 k n s (r1, r2, r3, r4)) : Calls Tryz.prog 11 #[.int .i64 5, .agg #[.int .i64 k, .int .u64 n, .string s]] w fun e w' => e = .returned (.tuple #[.agg #[.int .i64 r1, .int .u64 r2, .string r3], .int .i64 r4]) ∧ Below w.heap.size w w' := by
  have A0 := apBlk_start w #[.int .i64 k, .int .u64 n, .string s]
  have OF := Lib.hid hof
  have VH := Lib.hid hv
  have HL := Lib.hid hL
  have HD := Lib.hid hdo
  clear hof hv hL hdo
  go_enter Tryz.func11, Tryz.ntmps11
  go_wp2_with (first
    | (go_at_call 27; refine (OF.out _).mono ?_; rintro e w1 ⟨rfl, hb1⟩; have A1 := apBlk_below A0 hb1; have hZ := heap_last w1 (.cells #[.int .i64 0, .int .i64 0, .bool false, .nilFunc] 47))
    | (refine wpList_store_row rfl 47 (.tmp 6) (.tmp 11) rfl w1.heap.size #[.int .i64 4, .int .i64 1, .bool false, .func (.func 75) #[] #[]] rfl rfl 47 _ hZ (by kernel_rfl) rfl (by kernel_rfl) ?_; have hR := heap_row w1 #[.int .i64 0, .int .i64 0, .bool false, .nilFunc] #[.int .i64 4, .int .i64 1, .bool false, .func (.func 75) #[] #[]] 47; have hB := below_row (Below.refl _ w1) (.cells #[.int .i64 0, .int .i64 0, .bool false, .nilFunc] 47) #[.int .i64 4, .int .i64 1, .bool false, .func (.func 75) #[] #[]]; generalize (w1.alloc (.cells #[.int .i64 0, .int .i64 0, .bool false, .nilFunc] 47)).setRow w1.heap.size #[.int .i64 4, .int .i64 1, .bool false, .func (.func 75) #[] #[]] = w2 at hR hB ⊢; have A2 := apBlk_below A1 hB; have b0 := cell_of_heap A2.box 0 _ rfl; have b1 := cell_of_heap A2.box 1 _ rfl; have b2 := cell_of_heap A2.box 2 _ rfl)
    | (go_at_call 13; refine (VH.out _).mono ?_; rintro e w3 ⟨rfl, hb3⟩; have A3 := apBlk_below A2 hb3; have hR3 : w3.heap[w1.heap.size]? = _ := (hb3.block _ (heap_lt hR)).trans hR; have b0' := cell_of_heap A3.box 0 _ rfl; have b1' := cell_of_heap A3.box 1 _ rfl; have b2' := cell_of_heap A3.box 2 _ rfl; have z0 : w3.cell? ⟨w1.heap.size, 0, none⟩ = some (.int .i64 4) := cell_of_heap hR3 0 _ rfl; have z3 : w3.cell? ⟨w1.heap.size, 3, none⟩ = some (.func (.func 75) #[] #[]) := cell_of_heap hR3 3 _ rfl; have L3 := Lib.hid (laid_below HL.out A3.below))
    | (go_at_call 75; refine (HD.out _ L3.out).mono ?_; rintro e w4 ⟨rfl, hb4⟩; have A4 := apBlk_below A3 hb4)
    | (refine wpList_store_row rfl 27 (.tmp 4) (.tmp 34) rfl (w.heap.size + 1) #[.int .i64 r1, .int .u64 r2, .string r3] rfl rfl 27 valZ A4.at_ (by kernel_rfl) rfl (by kernel_rfl) ?_))
  exact bodyPost_ret (results_row_tmp rfl _ _ (w.heap.size + 1) 27 #[.int .i64 r1, .int .u64 r2, .string r3] (0, 0) _ rfl (setRow_heap _ _ _ _ _ _ A4.at_) Tryz.underlying27 rfl (by kernel_rfl)) rfl ⟨rfl, below_setRow A4.below (by omega) _⟩

set_option maxRecDepth 100000 in
set_option maxHeartbeats 2000000 in
theorem apply_6 (k n : Int) (s : ByteArray) (w : World) (r1 r2 : Int) (r3 : ByteArray) (r4 : Int) (hL : Laid w) (hof : OfIs 6 (4, 2, false, .func (.func 78) #[] #[], true)) (hv : ∀ w, Calls Tryz.prog 13 #[.agg #[.int .i64 k, .int .u64 n, .string s]] w fun e w' => e = .returned (.bool true) ∧ Below w.heap.size w w') (hk : (k != 4) = false) (hdo : DoIs 78 k n s (r1, r2, r3, r4)) : Calls Tryz.prog 11 #[.int .i64 6, .agg #[.int .i64 k, .int .u64 n, .string s]] w fun e w' => e = .returned (.tuple #[.agg #[.int .i64 r1, .int .u64 r2, .string r3], .int .i64 r4]) ∧ Below w.heap.size w w' := by
  have A0 := apBlk_start w #[.int .i64 k, .int .u64 n, .string s]
  have OF := Lib.hid hof
  have VH := Lib.hid hv
  have HL := Lib.hid hL
  have HD := Lib.hid hdo
  clear hof hv hL hdo
  go_enter Tryz.func11, Tryz.ntmps11
  go_wp2_with (first
    | (go_at_call 27; refine (OF.out _).mono ?_; rintro e w1 ⟨rfl, hb1⟩; have A1 := apBlk_below A0 hb1; have hZ := heap_last w1 (.cells #[.int .i64 0, .int .i64 0, .bool false, .nilFunc] 47))
    | (refine wpList_store_row rfl 47 (.tmp 6) (.tmp 11) rfl w1.heap.size #[.int .i64 4, .int .i64 2, .bool false, .func (.func 78) #[] #[]] rfl rfl 47 _ hZ (by kernel_rfl) rfl (by kernel_rfl) ?_; have hR := heap_row w1 #[.int .i64 0, .int .i64 0, .bool false, .nilFunc] #[.int .i64 4, .int .i64 2, .bool false, .func (.func 78) #[] #[]] 47; have hB := below_row (Below.refl _ w1) (.cells #[.int .i64 0, .int .i64 0, .bool false, .nilFunc] 47) #[.int .i64 4, .int .i64 2, .bool false, .func (.func 78) #[] #[]]; generalize (w1.alloc (.cells #[.int .i64 0, .int .i64 0, .bool false, .nilFunc] 47)).setRow w1.heap.size #[.int .i64 4, .int .i64 2, .bool false, .func (.func 78) #[] #[]] = w2 at hR hB ⊢; have A2 := apBlk_below A1 hB; have b0 := cell_of_heap A2.box 0 _ rfl; have b1 := cell_of_heap A2.box 1 _ rfl; have b2 := cell_of_heap A2.box 2 _ rfl)
    | (go_at_call 13; refine (VH.out _).mono ?_; rintro e w3 ⟨rfl, hb3⟩; have A3 := apBlk_below A2 hb3; have hR3 : w3.heap[w1.heap.size]? = _ := (hb3.block _ (heap_lt hR)).trans hR; have b0' := cell_of_heap A3.box 0 _ rfl; have b1' := cell_of_heap A3.box 1 _ rfl; have b2' := cell_of_heap A3.box 2 _ rfl; have z0 : w3.cell? ⟨w1.heap.size, 0, none⟩ = some (.int .i64 4) := cell_of_heap hR3 0 _ rfl; have z3 : w3.cell? ⟨w1.heap.size, 3, none⟩ = some (.func (.func 78) #[] #[]) := cell_of_heap hR3 3 _ rfl; have L3 := Lib.hid (laid_below HL.out A3.below))
    | (go_at_call 78; refine (HD.out _ L3.out).mono ?_; rintro e w4 ⟨rfl, hb4⟩; have A4 := apBlk_below A3 hb4)
    | (refine wpList_store_row rfl 27 (.tmp 4) (.tmp 34) rfl (w.heap.size + 1) #[.int .i64 r1, .int .u64 r2, .string r3] rfl rfl 27 valZ A4.at_ (by kernel_rfl) rfl (by kernel_rfl) ?_))
  exact bodyPost_ret (results_row_tmp rfl _ _ (w.heap.size + 1) 27 #[.int .i64 r1, .int .u64 r2, .string r3] (0, 0) _ rfl (setRow_heap _ _ _ _ _ _ A4.at_) Tryz.underlying27 rfl (by kernel_rfl)) rfl ⟨rfl, below_setRow A4.below (by omega) _⟩

set_option maxRecDepth 100000 in
set_option maxHeartbeats 2000000 in
theorem apply_7 (k n : Int) (s : ByteArray) (w : World) (r1 r2 : Int) (r3 : ByteArray) (r4 : Int) (hL : Laid w) (hof : OfIs 7 (3, 4, true, .func (.func 82) #[] #[], true)) (hv : ∀ w, Calls Tryz.prog 13 #[.agg #[.int .i64 k, .int .u64 n, .string s]] w fun e w' => e = .returned (.bool true) ∧ Below w.heap.size w w') (hk : (k != 3) = false) (hdo : DoIs 82 k n s (r1, r2, r3, r4)) : Calls Tryz.prog 11 #[.int .i64 7, .agg #[.int .i64 k, .int .u64 n, .string s]] w fun e w' => e = .returned (.tuple #[.agg #[.int .i64 r1, .int .u64 r2, .string r3], .int .i64 r4]) ∧ Below w.heap.size w w' := by
  have A0 := apBlk_start w #[.int .i64 k, .int .u64 n, .string s]
  have OF := Lib.hid hof
  have VH := Lib.hid hv
  have HL := Lib.hid hL
  have HD := Lib.hid hdo
  clear hof hv hL hdo
  go_enter Tryz.func11, Tryz.ntmps11
  go_wp2_with (first
    | (go_at_call 27; refine (OF.out _).mono ?_; rintro e w1 ⟨rfl, hb1⟩; have A1 := apBlk_below A0 hb1; have hZ := heap_last w1 (.cells #[.int .i64 0, .int .i64 0, .bool false, .nilFunc] 47))
    | (refine wpList_store_row rfl 47 (.tmp 6) (.tmp 11) rfl w1.heap.size #[.int .i64 3, .int .i64 4, .bool true, .func (.func 82) #[] #[]] rfl rfl 47 _ hZ (by kernel_rfl) rfl (by kernel_rfl) ?_; have hR := heap_row w1 #[.int .i64 0, .int .i64 0, .bool false, .nilFunc] #[.int .i64 3, .int .i64 4, .bool true, .func (.func 82) #[] #[]] 47; have hB := below_row (Below.refl _ w1) (.cells #[.int .i64 0, .int .i64 0, .bool false, .nilFunc] 47) #[.int .i64 3, .int .i64 4, .bool true, .func (.func 82) #[] #[]]; generalize (w1.alloc (.cells #[.int .i64 0, .int .i64 0, .bool false, .nilFunc] 47)).setRow w1.heap.size #[.int .i64 3, .int .i64 4, .bool true, .func (.func 82) #[] #[]] = w2 at hR hB ⊢; have A2 := apBlk_below A1 hB; have b0 := cell_of_heap A2.box 0 _ rfl; have b1 := cell_of_heap A2.box 1 _ rfl; have b2 := cell_of_heap A2.box 2 _ rfl)
    | (go_at_call 13; refine (VH.out _).mono ?_; rintro e w3 ⟨rfl, hb3⟩; have A3 := apBlk_below A2 hb3; have hR3 : w3.heap[w1.heap.size]? = _ := (hb3.block _ (heap_lt hR)).trans hR; have b0' := cell_of_heap A3.box 0 _ rfl; have b1' := cell_of_heap A3.box 1 _ rfl; have b2' := cell_of_heap A3.box 2 _ rfl; have z0 : w3.cell? ⟨w1.heap.size, 0, none⟩ = some (.int .i64 3) := cell_of_heap hR3 0 _ rfl; have z3 : w3.cell? ⟨w1.heap.size, 3, none⟩ = some (.func (.func 82) #[] #[]) := cell_of_heap hR3 3 _ rfl; have L3 := Lib.hid (laid_below HL.out A3.below))
    | (go_at_call 82; refine (HD.out _ L3.out).mono ?_; rintro e w4 ⟨rfl, hb4⟩; have A4 := apBlk_below A3 hb4)
    | (refine wpList_store_row rfl 27 (.tmp 4) (.tmp 34) rfl (w.heap.size + 1) #[.int .i64 r1, .int .u64 r2, .string r3] rfl rfl 27 valZ A4.at_ (by kernel_rfl) rfl (by kernel_rfl) ?_))
  exact bodyPost_ret (results_row_tmp rfl _ _ (w.heap.size + 1) 27 #[.int .i64 r1, .int .u64 r2, .string r3] (0, 0) _ rfl (setRow_heap _ _ _ _ _ _ A4.at_) Tryz.underlying27 rfl (by kernel_rfl)) rfl ⟨rfl, below_setRow A4.below (by omega) _⟩

set_option maxRecDepth 100000 in
set_option maxHeartbeats 2000000 in
theorem apply_8 (k n : Int) (s : ByteArray) (w : World) (r1 r2 : Int) (r3 : ByteArray) (r4 : Int) (hL : Laid w) (hof : OfIs 8 (4, 3, false, .func (.func 84) #[] #[], true)) (hv : ∀ w, Calls Tryz.prog 13 #[.agg #[.int .i64 k, .int .u64 n, .string s]] w fun e w' => e = .returned (.bool true) ∧ Below w.heap.size w w') (hk : (k != 4) = false) (hdo : DoIs 84 k n s (r1, r2, r3, r4)) : Calls Tryz.prog 11 #[.int .i64 8, .agg #[.int .i64 k, .int .u64 n, .string s]] w fun e w' => e = .returned (.tuple #[.agg #[.int .i64 r1, .int .u64 r2, .string r3], .int .i64 r4]) ∧ Below w.heap.size w w' := by
  have A0 := apBlk_start w #[.int .i64 k, .int .u64 n, .string s]
  have OF := Lib.hid hof
  have VH := Lib.hid hv
  have HL := Lib.hid hL
  have HD := Lib.hid hdo
  clear hof hv hL hdo
  go_enter Tryz.func11, Tryz.ntmps11
  go_wp2_with (first
    | (go_at_call 27; refine (OF.out _).mono ?_; rintro e w1 ⟨rfl, hb1⟩; have A1 := apBlk_below A0 hb1; have hZ := heap_last w1 (.cells #[.int .i64 0, .int .i64 0, .bool false, .nilFunc] 47))
    | (refine wpList_store_row rfl 47 (.tmp 6) (.tmp 11) rfl w1.heap.size #[.int .i64 4, .int .i64 3, .bool false, .func (.func 84) #[] #[]] rfl rfl 47 _ hZ (by kernel_rfl) rfl (by kernel_rfl) ?_; have hR := heap_row w1 #[.int .i64 0, .int .i64 0, .bool false, .nilFunc] #[.int .i64 4, .int .i64 3, .bool false, .func (.func 84) #[] #[]] 47; have hB := below_row (Below.refl _ w1) (.cells #[.int .i64 0, .int .i64 0, .bool false, .nilFunc] 47) #[.int .i64 4, .int .i64 3, .bool false, .func (.func 84) #[] #[]]; generalize (w1.alloc (.cells #[.int .i64 0, .int .i64 0, .bool false, .nilFunc] 47)).setRow w1.heap.size #[.int .i64 4, .int .i64 3, .bool false, .func (.func 84) #[] #[]] = w2 at hR hB ⊢; have A2 := apBlk_below A1 hB; have b0 := cell_of_heap A2.box 0 _ rfl; have b1 := cell_of_heap A2.box 1 _ rfl; have b2 := cell_of_heap A2.box 2 _ rfl)
    | (go_at_call 13; refine (VH.out _).mono ?_; rintro e w3 ⟨rfl, hb3⟩; have A3 := apBlk_below A2 hb3; have hR3 : w3.heap[w1.heap.size]? = _ := (hb3.block _ (heap_lt hR)).trans hR; have b0' := cell_of_heap A3.box 0 _ rfl; have b1' := cell_of_heap A3.box 1 _ rfl; have b2' := cell_of_heap A3.box 2 _ rfl; have z0 : w3.cell? ⟨w1.heap.size, 0, none⟩ = some (.int .i64 4) := cell_of_heap hR3 0 _ rfl; have z3 : w3.cell? ⟨w1.heap.size, 3, none⟩ = some (.func (.func 84) #[] #[]) := cell_of_heap hR3 3 _ rfl; have L3 := Lib.hid (laid_below HL.out A3.below))
    | (go_at_call 84; refine (HD.out _ L3.out).mono ?_; rintro e w4 ⟨rfl, hb4⟩; have A4 := apBlk_below A3 hb4)
    | (refine wpList_store_row rfl 27 (.tmp 4) (.tmp 34) rfl (w.heap.size + 1) #[.int .i64 r1, .int .u64 r2, .string r3] rfl rfl 27 valZ A4.at_ (by kernel_rfl) rfl (by kernel_rfl) ?_))
  exact bodyPost_ret (results_row_tmp rfl _ _ (w.heap.size + 1) 27 #[.int .i64 r1, .int .u64 r2, .string r3] (0, 0) _ rfl (setRow_heap _ _ _ _ _ _ A4.at_) Tryz.underlying27 rfl (by kernel_rfl)) rfl ⟨rfl, below_setRow A4.below (by omega) _⟩

set_option maxRecDepth 100000 in
set_option maxHeartbeats 2000000 in
theorem apply_9 (k n : Int) (s : ByteArray) (w : World) (r1 r2 : Int) (r3 : ByteArray) (r4 : Int) (hL : Laid w) (hof : OfIs 9 (3, 1, true, .func (.func 85) #[] #[], true)) (hv : ∀ w, Calls Tryz.prog 13 #[.agg #[.int .i64 k, .int .u64 n, .string s]] w fun e w' => e = .returned (.bool true) ∧ Below w.heap.size w w') (hk : (k != 3) = false) (hdo : DoIs 85 k n s (r1, r2, r3, r4)) : Calls Tryz.prog 11 #[.int .i64 9, .agg #[.int .i64 k, .int .u64 n, .string s]] w fun e w' => e = .returned (.tuple #[.agg #[.int .i64 r1, .int .u64 r2, .string r3], .int .i64 r4]) ∧ Below w.heap.size w w' := by
  have A0 := apBlk_start w #[.int .i64 k, .int .u64 n, .string s]
  have OF := Lib.hid hof
  have VH := Lib.hid hv
  have HL := Lib.hid hL
  have HD := Lib.hid hdo
  clear hof hv hL hdo
  go_enter Tryz.func11, Tryz.ntmps11
  go_wp2_with (first
    | (go_at_call 27; refine (OF.out _).mono ?_; rintro e w1 ⟨rfl, hb1⟩; have A1 := apBlk_below A0 hb1; have hZ := heap_last w1 (.cells #[.int .i64 0, .int .i64 0, .bool false, .nilFunc] 47))
    | (refine wpList_store_row rfl 47 (.tmp 6) (.tmp 11) rfl w1.heap.size #[.int .i64 3, .int .i64 1, .bool true, .func (.func 85) #[] #[]] rfl rfl 47 _ hZ (by kernel_rfl) rfl (by kernel_rfl) ?_; have hR := heap_row w1 #[.int .i64 0, .int .i64 0, .bool false, .nilFunc] #[.int .i64 3, .int .i64 1, .bool true, .func (.func 85) #[] #[]] 47; have hB := below_row (Below.refl _ w1) (.cells #[.int .i64 0, .int .i64 0, .bool false, .nilFunc] 47) #[.int .i64 3, .int .i64 1, .bool true, .func (.func 85) #[] #[]]; generalize (w1.alloc (.cells #[.int .i64 0, .int .i64 0, .bool false, .nilFunc] 47)).setRow w1.heap.size #[.int .i64 3, .int .i64 1, .bool true, .func (.func 85) #[] #[]] = w2 at hR hB ⊢; have A2 := apBlk_below A1 hB; have b0 := cell_of_heap A2.box 0 _ rfl; have b1 := cell_of_heap A2.box 1 _ rfl; have b2 := cell_of_heap A2.box 2 _ rfl)
    | (go_at_call 13; refine (VH.out _).mono ?_; rintro e w3 ⟨rfl, hb3⟩; have A3 := apBlk_below A2 hb3; have hR3 : w3.heap[w1.heap.size]? = _ := (hb3.block _ (heap_lt hR)).trans hR; have b0' := cell_of_heap A3.box 0 _ rfl; have b1' := cell_of_heap A3.box 1 _ rfl; have b2' := cell_of_heap A3.box 2 _ rfl; have z0 : w3.cell? ⟨w1.heap.size, 0, none⟩ = some (.int .i64 3) := cell_of_heap hR3 0 _ rfl; have z3 : w3.cell? ⟨w1.heap.size, 3, none⟩ = some (.func (.func 85) #[] #[]) := cell_of_heap hR3 3 _ rfl; have L3 := Lib.hid (laid_below HL.out A3.below))
    | (go_at_call 85; refine (HD.out _ L3.out).mono ?_; rintro e w4 ⟨rfl, hb4⟩; have A4 := apBlk_below A3 hb4)
    | (refine wpList_store_row rfl 27 (.tmp 4) (.tmp 34) rfl (w.heap.size + 1) #[.int .i64 r1, .int .u64 r2, .string r3] rfl rfl 27 valZ A4.at_ (by kernel_rfl) rfl (by kernel_rfl) ?_))
  exact bodyPost_ret (results_row_tmp rfl _ _ (w.heap.size + 1) 27 #[.int .i64 r1, .int .u64 r2, .string r3] (0, 0) _ rfl (setRow_heap _ _ _ _ _ _ A4.at_) Tryz.underlying27 rfl (by kernel_rfl)) rfl ⟨rfl, below_setRow A4.below (by omega) _⟩

set_option maxRecDepth 100000 in
set_option maxHeartbeats 2000000 in
theorem apply_10 (k n : Int) (s : ByteArray) (w : World) (r1 r2 : Int) (r3 : ByteArray) (r4 : Int) (hL : Laid w) (hof : OfIs 10 (1, 3, false, .func (.func 86) #[] #[], true)) (hv : ∀ w, Calls Tryz.prog 13 #[.agg #[.int .i64 k, .int .u64 n, .string s]] w fun e w' => e = .returned (.bool true) ∧ Below w.heap.size w w') (hk : (k != 1) = false) (hdo : DoIs 86 k n s (r1, r2, r3, r4)) : Calls Tryz.prog 11 #[.int .i64 10, .agg #[.int .i64 k, .int .u64 n, .string s]] w fun e w' => e = .returned (.tuple #[.agg #[.int .i64 r1, .int .u64 r2, .string r3], .int .i64 r4]) ∧ Below w.heap.size w w' := by
  have A0 := apBlk_start w #[.int .i64 k, .int .u64 n, .string s]
  have OF := Lib.hid hof
  have VH := Lib.hid hv
  have HL := Lib.hid hL
  have HD := Lib.hid hdo
  clear hof hv hL hdo
  go_enter Tryz.func11, Tryz.ntmps11
  go_wp2_with (first
    | (go_at_call 27; refine (OF.out _).mono ?_; rintro e w1 ⟨rfl, hb1⟩; have A1 := apBlk_below A0 hb1; have hZ := heap_last w1 (.cells #[.int .i64 0, .int .i64 0, .bool false, .nilFunc] 47))
    | (refine wpList_store_row rfl 47 (.tmp 6) (.tmp 11) rfl w1.heap.size #[.int .i64 1, .int .i64 3, .bool false, .func (.func 86) #[] #[]] rfl rfl 47 _ hZ (by kernel_rfl) rfl (by kernel_rfl) ?_; have hR := heap_row w1 #[.int .i64 0, .int .i64 0, .bool false, .nilFunc] #[.int .i64 1, .int .i64 3, .bool false, .func (.func 86) #[] #[]] 47; have hB := below_row (Below.refl _ w1) (.cells #[.int .i64 0, .int .i64 0, .bool false, .nilFunc] 47) #[.int .i64 1, .int .i64 3, .bool false, .func (.func 86) #[] #[]]; generalize (w1.alloc (.cells #[.int .i64 0, .int .i64 0, .bool false, .nilFunc] 47)).setRow w1.heap.size #[.int .i64 1, .int .i64 3, .bool false, .func (.func 86) #[] #[]] = w2 at hR hB ⊢; have A2 := apBlk_below A1 hB; have b0 := cell_of_heap A2.box 0 _ rfl; have b1 := cell_of_heap A2.box 1 _ rfl; have b2 := cell_of_heap A2.box 2 _ rfl)
    | (go_at_call 13; refine (VH.out _).mono ?_; rintro e w3 ⟨rfl, hb3⟩; have A3 := apBlk_below A2 hb3; have hR3 : w3.heap[w1.heap.size]? = _ := (hb3.block _ (heap_lt hR)).trans hR; have b0' := cell_of_heap A3.box 0 _ rfl; have b1' := cell_of_heap A3.box 1 _ rfl; have b2' := cell_of_heap A3.box 2 _ rfl; have z0 : w3.cell? ⟨w1.heap.size, 0, none⟩ = some (.int .i64 1) := cell_of_heap hR3 0 _ rfl; have z3 : w3.cell? ⟨w1.heap.size, 3, none⟩ = some (.func (.func 86) #[] #[]) := cell_of_heap hR3 3 _ rfl; have L3 := Lib.hid (laid_below HL.out A3.below))
    | (go_at_call 86; refine (HD.out _ L3.out).mono ?_; rintro e w4 ⟨rfl, hb4⟩; have A4 := apBlk_below A3 hb4)
    | (refine wpList_store_row rfl 27 (.tmp 4) (.tmp 34) rfl (w.heap.size + 1) #[.int .i64 r1, .int .u64 r2, .string r3] rfl rfl 27 valZ A4.at_ (by kernel_rfl) rfl (by kernel_rfl) ?_))
  exact bodyPost_ret (results_row_tmp rfl _ _ (w.heap.size + 1) 27 #[.int .i64 r1, .int .u64 r2, .string r3] (0, 0) _ rfl (setRow_heap _ _ _ _ _ _ A4.at_) Tryz.underlying27 rfl (by kernel_rfl)) rfl ⟨rfl, below_setRow A4.below (by omega) _⟩

set_option maxRecDepth 100000 in
set_option maxHeartbeats 2000000 in
theorem apply_11 (k n : Int) (s : ByteArray) (w : World) (r1 r2 : Int) (r3 : ByteArray) (r4 : Int) (hL : Laid w) (hof : OfIs 11 (4, 5, true, .func (.func 88) #[] #[], true)) (hv : ∀ w, Calls Tryz.prog 13 #[.agg #[.int .i64 k, .int .u64 n, .string s]] w fun e w' => e = .returned (.bool true) ∧ Below w.heap.size w w') (hk : (k != 4) = false) (hdo : DoIs 88 k n s (r1, r2, r3, r4)) : Calls Tryz.prog 11 #[.int .i64 11, .agg #[.int .i64 k, .int .u64 n, .string s]] w fun e w' => e = .returned (.tuple #[.agg #[.int .i64 r1, .int .u64 r2, .string r3], .int .i64 r4]) ∧ Below w.heap.size w w' := by
  have A0 := apBlk_start w #[.int .i64 k, .int .u64 n, .string s]
  have OF := Lib.hid hof
  have VH := Lib.hid hv
  have HL := Lib.hid hL
  have HD := Lib.hid hdo
  clear hof hv hL hdo
  go_enter Tryz.func11, Tryz.ntmps11
  go_wp2_with (first
    | (go_at_call 27; refine (OF.out _).mono ?_; rintro e w1 ⟨rfl, hb1⟩; have A1 := apBlk_below A0 hb1; have hZ := heap_last w1 (.cells #[.int .i64 0, .int .i64 0, .bool false, .nilFunc] 47))
    | (refine wpList_store_row rfl 47 (.tmp 6) (.tmp 11) rfl w1.heap.size #[.int .i64 4, .int .i64 5, .bool true, .func (.func 88) #[] #[]] rfl rfl 47 _ hZ (by kernel_rfl) rfl (by kernel_rfl) ?_; have hR := heap_row w1 #[.int .i64 0, .int .i64 0, .bool false, .nilFunc] #[.int .i64 4, .int .i64 5, .bool true, .func (.func 88) #[] #[]] 47; have hB := below_row (Below.refl _ w1) (.cells #[.int .i64 0, .int .i64 0, .bool false, .nilFunc] 47) #[.int .i64 4, .int .i64 5, .bool true, .func (.func 88) #[] #[]]; generalize (w1.alloc (.cells #[.int .i64 0, .int .i64 0, .bool false, .nilFunc] 47)).setRow w1.heap.size #[.int .i64 4, .int .i64 5, .bool true, .func (.func 88) #[] #[]] = w2 at hR hB ⊢; have A2 := apBlk_below A1 hB; have b0 := cell_of_heap A2.box 0 _ rfl; have b1 := cell_of_heap A2.box 1 _ rfl; have b2 := cell_of_heap A2.box 2 _ rfl)
    | (go_at_call 13; refine (VH.out _).mono ?_; rintro e w3 ⟨rfl, hb3⟩; have A3 := apBlk_below A2 hb3; have hR3 : w3.heap[w1.heap.size]? = _ := (hb3.block _ (heap_lt hR)).trans hR; have b0' := cell_of_heap A3.box 0 _ rfl; have b1' := cell_of_heap A3.box 1 _ rfl; have b2' := cell_of_heap A3.box 2 _ rfl; have z0 : w3.cell? ⟨w1.heap.size, 0, none⟩ = some (.int .i64 4) := cell_of_heap hR3 0 _ rfl; have z3 : w3.cell? ⟨w1.heap.size, 3, none⟩ = some (.func (.func 88) #[] #[]) := cell_of_heap hR3 3 _ rfl; have L3 := Lib.hid (laid_below HL.out A3.below))
    | (go_at_call 88; refine (HD.out _ L3.out).mono ?_; rintro e w4 ⟨rfl, hb4⟩; have A4 := apBlk_below A3 hb4)
    | (refine wpList_store_row rfl 27 (.tmp 4) (.tmp 34) rfl (w.heap.size + 1) #[.int .i64 r1, .int .u64 r2, .string r3] rfl rfl 27 valZ A4.at_ (by kernel_rfl) rfl (by kernel_rfl) ?_))
  exact bodyPost_ret (results_row_tmp rfl _ _ (w.heap.size + 1) 27 #[.int .i64 r1, .int .u64 r2, .string r3] (0, 0) _ rfl (setRow_heap _ _ _ _ _ _ A4.at_) Tryz.underlying27 rfl (by kernel_rfl)) rfl ⟨rfl, below_setRow A4.below (by omega) _⟩

set_option maxRecDepth 100000 in
set_option maxHeartbeats 2000000 in
theorem apply_12 (k n : Int) (s : ByteArray) (w : World) (r1 r2 : Int) (r3 : ByteArray) (r4 : Int) (hL : Laid w) (hof : OfIs 12 (5, 4, false, .func (.func 89) #[] #[], true)) (hv : ∀ w, Calls Tryz.prog 13 #[.agg #[.int .i64 k, .int .u64 n, .string s]] w fun e w' => e = .returned (.bool true) ∧ Below w.heap.size w w') (hk : (k != 5) = false) (hdo : DoIs 89 k n s (r1, r2, r3, r4)) : Calls Tryz.prog 11 #[.int .i64 12, .agg #[.int .i64 k, .int .u64 n, .string s]] w fun e w' => e = .returned (.tuple #[.agg #[.int .i64 r1, .int .u64 r2, .string r3], .int .i64 r4]) ∧ Below w.heap.size w w' := by
  have A0 := apBlk_start w #[.int .i64 k, .int .u64 n, .string s]
  have OF := Lib.hid hof
  have VH := Lib.hid hv
  have HL := Lib.hid hL
  have HD := Lib.hid hdo
  clear hof hv hL hdo
  go_enter Tryz.func11, Tryz.ntmps11
  go_wp2_with (first
    | (go_at_call 27; refine (OF.out _).mono ?_; rintro e w1 ⟨rfl, hb1⟩; have A1 := apBlk_below A0 hb1; have hZ := heap_last w1 (.cells #[.int .i64 0, .int .i64 0, .bool false, .nilFunc] 47))
    | (refine wpList_store_row rfl 47 (.tmp 6) (.tmp 11) rfl w1.heap.size #[.int .i64 5, .int .i64 4, .bool false, .func (.func 89) #[] #[]] rfl rfl 47 _ hZ (by kernel_rfl) rfl (by kernel_rfl) ?_; have hR := heap_row w1 #[.int .i64 0, .int .i64 0, .bool false, .nilFunc] #[.int .i64 5, .int .i64 4, .bool false, .func (.func 89) #[] #[]] 47; have hB := below_row (Below.refl _ w1) (.cells #[.int .i64 0, .int .i64 0, .bool false, .nilFunc] 47) #[.int .i64 5, .int .i64 4, .bool false, .func (.func 89) #[] #[]]; generalize (w1.alloc (.cells #[.int .i64 0, .int .i64 0, .bool false, .nilFunc] 47)).setRow w1.heap.size #[.int .i64 5, .int .i64 4, .bool false, .func (.func 89) #[] #[]] = w2 at hR hB ⊢; have A2 := apBlk_below A1 hB; have b0 := cell_of_heap A2.box 0 _ rfl; have b1 := cell_of_heap A2.box 1 _ rfl; have b2 := cell_of_heap A2.box 2 _ rfl)
    | (go_at_call 13; refine (VH.out _).mono ?_; rintro e w3 ⟨rfl, hb3⟩; have A3 := apBlk_below A2 hb3; have hR3 : w3.heap[w1.heap.size]? = _ := (hb3.block _ (heap_lt hR)).trans hR; have b0' := cell_of_heap A3.box 0 _ rfl; have b1' := cell_of_heap A3.box 1 _ rfl; have b2' := cell_of_heap A3.box 2 _ rfl; have z0 : w3.cell? ⟨w1.heap.size, 0, none⟩ = some (.int .i64 5) := cell_of_heap hR3 0 _ rfl; have z3 : w3.cell? ⟨w1.heap.size, 3, none⟩ = some (.func (.func 89) #[] #[]) := cell_of_heap hR3 3 _ rfl; have L3 := Lib.hid (laid_below HL.out A3.below))
    | (go_at_call 89; refine (HD.out _ L3.out).mono ?_; rintro e w4 ⟨rfl, hb4⟩; have A4 := apBlk_below A3 hb4)
    | (refine wpList_store_row rfl 27 (.tmp 4) (.tmp 34) rfl (w.heap.size + 1) #[.int .i64 r1, .int .u64 r2, .string r3] rfl rfl 27 valZ A4.at_ (by kernel_rfl) rfl (by kernel_rfl) ?_))
  exact bodyPost_ret (results_row_tmp rfl _ _ (w.heap.size + 1) 27 #[.int .i64 r1, .int .u64 r2, .string r3] (0, 0) _ rfl (setRow_heap _ _ _ _ _ _ A4.at_) Tryz.underlying27 rfl (by kernel_rfl)) rfl ⟨rfl, below_setRow A4.below (by omega) _⟩

end Go.Proofs.YthfhkfebkpdkcaaGreatDoor
