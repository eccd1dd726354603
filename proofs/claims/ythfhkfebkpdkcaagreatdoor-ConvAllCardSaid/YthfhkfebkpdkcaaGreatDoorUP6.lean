/- Plain functions for Go functions of the program, each with a proof that the Go call comes to it (no condition but those that each theorem names). Written by a program of this session. -/
import Derived.Test.YthfhkfebkpdkcaaGreatDoorUP0
import Derived.Test.YthfhkfebkpdkcaaGreatDoorUP2
import Derived.Test.YthfhkfebkpdkcaaGreatDoorUP5
namespace Go.Proofs.YthfhkfebkpdkcaaGreatDoor.P
open Go.RowKit Go.Proofs.YthfhkfebkpdkcaaGreatDoorW.PrintWords Go.Proofs.YthfhkfebkpdkcaaGreatDoorW.PrintLast Go.Proofs.YthfhkfebkpdkcaaGreatDoorW.PrintMore
set_option linter.unusedVariables false
set_option linter.unusedSimpArgs false

/-! ### stratumref04_Valid: function 29 -/
def stratumref04_Valid.j0 : Nat → Int → Bool → Int → Int → ByteArray → Option (Bool)
  | 0, _, _, _, _, _ => none
  | k + 1, x4, x5, x139000, x139001, x139002 => if x5 = true then (some (x139002.toList == ([] : List UInt8))) else (if x4 = 3 then (if x139002.toList = ([] : List UInt8) then (some (decide (x139001 ≤ 1))) else (some false)) else (if x4 = 4 then (if x139001 = 0 then ((stratumref03_Valid.f k x139002).bind fun t139 => (some t139)) else (some false)) else (if x4 = 5 then (some (x139001 == 0)) else (some false))))
def stratumref04_Valid.f (k : Nat) (a0_0 : Int) (a0_1 : Int) (a0_2 : ByteArray) : Option (Bool) := if a0_0 = 1 then (stratumref04_Valid.j0 k a0_0 (a0_0 == 1) a0_0 a0_1 a0_2) else (stratumref04_Valid.j0 k a0_0 (a0_0 == 2) a0_0 a0_1 a0_2)
theorem stratumref04_Valid.mono_l : ∀ k, (∀ y0 y1 y2 y3 y4, LeO (stratumref04_Valid.j0 k y0 y1 y2 y3 y4) (stratumref04_Valid.j0 (k + 1) y0 y1 y2 y3 y4))
  | 0 => fun _ _ _ _ _ r h => by simp [stratumref04_Valid.j0] at h
  | k + 1 => by
    have ih0 := stratumref04_Valid.mono_l k
    · intro y0 y1 y2 y3 y4
      unfold stratumref04_Valid.j0
      repeat' first
      | (with_reducible exact ih0 _ _ _ _ _)
      | (with_reducible exact stratumref03_Valid.mono _ _)
      | (with_reducible exact LeO.refl _)
      | (with_reducible exact LeO.none _)
      | (with_reducible refine LeO.ite ?_ ?_)
      | (with_reducible refine LeO.bind ?_ (fun _ => ?_))
      | exact ih0 _ _ _ _ _
      | exact stratumref03_Valid.mono _ _
      | exact LeO.none _
      | refine LeO.ite ?_ ?_
      | refine LeO.bind ?_ (fun _ => ?_)
theorem stratumref04_Valid.mono : ∀ a0 a1 a2 k, LeO (stratumref04_Valid.f k a0 a1 a2) (stratumref04_Valid.f (k + 1) a0 a1 a2) := by
  intro a0 a1 a2 k
  have ih0 := stratumref04_Valid.mono_l k
  unfold stratumref04_Valid.f
  repeat' first
      | (with_reducible exact ih0 _ _ _ _ _)
      | (with_reducible exact stratumref03_Valid.mono _ _)
      | (with_reducible exact LeO.refl _)
      | (with_reducible exact LeO.none _)
      | (with_reducible refine LeO.ite ?_ ?_)
      | (with_reducible refine LeO.bind ?_ (fun _ => ?_))
      | exact ih0 _ _ _ _ _
      | exact stratumref03_Valid.mono _ _
      | exact LeO.none _
      | refine LeO.ite ?_ ?_
      | refine LeO.bind ?_ (fun _ => ?_)
set_option maxHeartbeats 8000000 in
set_option maxRecDepth 100000 in
theorem stratumref04_Valid.calls (k : Nat) (a0_0 : Int) (a0_1 : Int) (a0_2 : ByteArray) (r : Bool) (w : World) (h : stratumref04_Valid.f k a0_0 a0_1 a0_2 = some r) :
    Calls Tryz.prog 29 #[.agg #[.int .i64 a0_0, .int .u64 a0_1, .string a0_2]] w fun e w' => e = .returned (.bool r) ∧ Below w.heap.size w w' := by
  have hu27 := Tryz.underlying27
  have HB := Aside0.mk (Below.refl w.heap.size w)
  have H : (if a0_0 = 1 then (stratumref04_Valid.j0 k a0_0 (a0_0 == 1) a0_0 a0_1 a0_2) else (stratumref04_Valid.j0 k a0_0 (a0_0 == 2) a0_0 a0_1 a0_2)) = some r := h
  clear h
  have HC2 := Aside0.mk H
  clear H
  go_enter Tryz.func29, Tryz.ntmps29
  go_upto_if 5 with (first | ((with_reducible refine gate_dst (N := 1) rfl ?_); refine box_event ?hg (N := 1) ?hd (cs := #[.int .i64 a0_0, .int .u64 a0_1, .string a0_2]) (t := 27) ?hr ?_; (case hd => rfl); (case hg => rfl); (case hr => first | (go_simp; done) | (go_simp; rfl)); intro gb138 hg w3 hbox hb; have n0_ := Aside0.mk (below_step (by repeat (first | (with_reducible first | exact HB.out | apply below_alloc | apply pw_below_drewN | apply below_drew1) | exact HB.out)) hb); have n1_ := Aside0.mk (hbox); have n2_ := Aside0.mk ((by rw [hg]; exact (below_size (by repeat (first | (with_reducible first | exact HB.out | apply below_alloc | apply pw_below_drewN | apply below_drew1) | exact HB.out))) : w.heap.size ≤ gb138)); have n3_ := Aside0.mk ((by rw [hg]; exact (below_size (by repeat (first | (with_reducible first | exact HB.out | apply below_alloc | apply pw_below_drewN | apply below_drew1) | exact HB.out))) : w.heap.size ≤ gb138)); clear HB; have HB := n0_; have BK138 := n1_; have GW138 := n2_; have GE138 := n3_; clear n0_ n1_ n2_ n3_; clear hb hbox hg; have hcz4_0 : w3.cell? ⟨gb138, 0, none⟩ = some (.int .i64 a0_0) := (blk_cell BK138.out 0).trans rfl; have hcz4_1 : w3.cell? ⟨gb138, 1, none⟩ = some (.int .u64 a0_1) := (blk_cell BK138.out 1).trans rfl; have hcz4_2 : w3.cell? ⟨gb138, 2, none⟩ = some (.string a0_2) := (blk_cell BK138.out 2).trans rfl; have hfz4_0 := blk_frozen BK138.out 0; have hfz4_1 := blk_frozen BK138.out 1; have hfz4_2 := blk_frozen BK138.out 2))
  (try simp only [Act.put, List.setIfInBounds_toArray, List.set_cons_zero, List.set_cons_succ])
  go_cut [5] (fun v5 wc => ∃ (kq : Nat) (x5_1 : Bool), v5 = .bool x5_1 ∧ Aside0 (stratumref04_Valid.j0 kq a0_0 x5_1 a0_0 a0_1 a0_2 = some r) ∧ Aside0 (kq ≤ k) ∧ Aside0 (wc.heap[gb138]? = some (.cells #[.int .i64 a0_0, .int .u64 a0_1, .string a0_2] 27 (0, 0))) ∧ Aside0 (Below w.heap.size w wc))
  case first =>
    have H := HC2.out
    clear HC2
    by_cases c5 : a0_0 = 1
    · rw [if_pos c5] at H
      have c5b0 : (a0_0 == 1) = true := beq_iff_eq.mpr c5
      have c5b1 : (a0_0 != 1) = false := bne_eq_false_iff_eq.mpr c5
      clear c5
      (first | rw [c5b0] | (simp only [i64_w, i32_w]; rw [c5b0]) | skip)
      have H' := Aside0.mk H
      clear H
      go_wp2
      go_meet
      case rel => exact ⟨_, ((a0_0 == 1)), (by first | rfl | (simp; done) | (simp [*]; done)), H', ⟨by first | omega | exact Nat.le_refl _⟩, ⟨by (with_reducible repeat (first | refine blk_drewN ?_ _ | refine blk_drew ?_ | refine blk_alloc ?_ _)); exact BK138.out⟩, ⟨by repeat (first | (with_reducible first | exact HB.out | apply below_alloc | apply pw_below_drewN | apply below_drew1 | refine below_set ?_ GE138.out) | exact HB.out)⟩⟩
    · rw [if_neg c5] at H
      have c5b0 : (a0_0 == 1) = false := beq_eq_false_iff_ne.mpr c5
      have c5b1 : (a0_0 != 1) = true := bne_iff_ne.mpr c5
      (first | rw [c5b0] | (simp only [i64_w, i32_w]; rw [c5b0]) | skip)
      have H' := Aside0.mk H
      clear H
      go_wp2
      go_meet
      case rel => exact ⟨_, ((a0_0 == 2)), (by first | rfl | (simp; done) | (simp [*]; done)), H', ⟨by first | omega | exact Nat.le_refl _⟩, ⟨by (with_reducible repeat (first | refine blk_drewN ?_ _ | refine blk_drew ?_ | refine blk_alloc ?_ _)); exact BK138.out⟩, ⟨by repeat (first | (with_reducible first | exact HB.out | apply below_alloc | apply pw_below_drewN | apply below_drew1 | refine below_set ?_ GE138.out) | exact HB.out)⟩⟩
  case rest =>
    clear HC2
    try clear c2
    try clear p2
    try clear c5
    try clear c5b0
    try clear c5b1
    try clear hcz4_0
    try clear hcz4_1
    try clear hcz4_2
    try clear hfz4_0
    try clear hfz4_1
    try clear hfz4_2
    obtain ⟨kq, x5_1, rfl, HA, HJ1, BK138, HB⟩ := hcut
    cases kq with
    | zero => exact absurd HA.out (by simp [stratumref04_Valid.j0])
    | succ kj1 =>
      have H := HA.out
      clear HA
      simp only [stratumref04_Valid.j0] at H
      by_cases c6 : x5_1 = true
      · subst c6
        have H1 : (some (a0_2.toList == ([] : List UInt8))) = some r := by rw [if_pos rfl] at H; exact H
        clear H
        have H := H1
        clear H1
        obtain rfl := Option.some.inj H
        have hcz7_0 : wc.cell? ⟨gb138, 0, none⟩ = some (.int .i64 a0_0) := (blk_cell BK138.out 0).trans rfl
        have hcz7_1 : wc.cell? ⟨gb138, 1, none⟩ = some (.int .u64 a0_1) := (blk_cell BK138.out 1).trans rfl
        have hcz7_2 : wc.cell? ⟨gb138, 2, none⟩ = some (.string a0_2) := (blk_cell BK138.out 2).trans rfl
        have hfz7_0 := blk_frozen BK138.out 0
        have hfz7_1 := blk_frozen BK138.out 1
        have hfz7_2 := blk_frozen BK138.out 2
        go_wp2
        go_ret
        exact ⟨by first | rfl | (simp [errW_none, errW_some] <;> rfl) | (simp [*, errW_none, errW_some] <;> rfl), by repeat (first | (with_reducible first | exact HB.out | apply below_alloc | apply pw_below_drewN | apply below_drew1 | refine below_set ?_ GE138.out) | exact HB.out)⟩
      · replace c6 := Bool.eq_false_iff.mpr c6
        subst c6
        have H1 : (if a0_0 = 3 then (if a0_2.toList = ([] : List UInt8) then (some (decide (a0_1 ≤ 1))) else (some false)) else (if a0_0 = 4 then (if a0_1 = 0 then ((stratumref03_Valid.f kj1 a0_2).bind fun t139 => (some t139)) else (some false)) else (if a0_0 = 5 then (some (a0_1 == 0)) else (some false)))) = some r := by rw [if_neg (show ¬ (false = true) by decide)] at H; exact H
        clear H
        have H := H1
        clear H1
        by_cases c8 : a0_0 = 3
        · rw [if_pos c8] at H
          have c8b0 : (a0_0 == 3) = true := beq_iff_eq.mpr c8
          have c8b1 : (a0_0 != 3) = false := bne_eq_false_iff_eq.mpr c8
          clear c8
          by_cases c9 : a0_2.toList = ([] : List UInt8)
          · rw [if_pos c9] at H
            have c9b0 : (a0_2.toList == ([] : List UInt8)) = true := beq_iff_eq.mpr c9
            have c9b1 : (a0_2.toList != ([] : List UInt8)) = false := bne_eq_false_iff_eq.mpr c9
            clear c9
            obtain rfl := Option.some.inj H
            have hcz10_0 : wc.cell? ⟨gb138, 0, none⟩ = some (.int .i64 a0_0) := (blk_cell BK138.out 0).trans rfl
            have hcz10_1 : wc.cell? ⟨gb138, 1, none⟩ = some (.int .u64 a0_1) := (blk_cell BK138.out 1).trans rfl
            have hcz10_2 : wc.cell? ⟨gb138, 2, none⟩ = some (.string a0_2) := (blk_cell BK138.out 2).trans rfl
            have hfz10_0 := blk_frozen BK138.out 0
            have hfz10_1 := blk_frozen BK138.out 1
            have hfz10_2 := blk_frozen BK138.out 2
            go_wp2
            go_ret
            exact ⟨by first | rfl | (simp [errW_none, errW_some] <;> rfl) | (simp [*, errW_none, errW_some] <;> rfl), by repeat (first | (with_reducible first | exact HB.out | apply below_alloc | apply pw_below_drewN | apply below_drew1 | refine below_set ?_ GE138.out) | exact HB.out)⟩
          · rw [if_neg c9] at H
            have c9b0 : (a0_2.toList == ([] : List UInt8)) = false := beq_eq_false_iff_ne.mpr c9
            have c9b1 : (a0_2.toList != ([] : List UInt8)) = true := bne_iff_ne.mpr c9
            obtain rfl := Option.some.inj H
            have hcz11_0 : wc.cell? ⟨gb138, 0, none⟩ = some (.int .i64 a0_0) := (blk_cell BK138.out 0).trans rfl
            have hcz11_1 : wc.cell? ⟨gb138, 1, none⟩ = some (.int .u64 a0_1) := (blk_cell BK138.out 1).trans rfl
            have hcz11_2 : wc.cell? ⟨gb138, 2, none⟩ = some (.string a0_2) := (blk_cell BK138.out 2).trans rfl
            have hfz11_0 := blk_frozen BK138.out 0
            have hfz11_1 := blk_frozen BK138.out 1
            have hfz11_2 := blk_frozen BK138.out 2
            go_wp2
            go_ret
            exact ⟨by first | rfl | (simp [errW_none, errW_some] <;> rfl) | (simp [*, errW_none, errW_some] <;> rfl), by repeat (first | (with_reducible first | exact HB.out | apply below_alloc | apply pw_below_drewN | apply below_drew1 | refine below_set ?_ GE138.out) | exact HB.out)⟩
        · rw [if_neg c8] at H
          have c8b0 : (a0_0 == 3) = false := beq_eq_false_iff_ne.mpr c8
          have c8b1 : (a0_0 != 3) = true := bne_iff_ne.mpr c8
          by_cases c12 : a0_0 = 4
          · rw [if_pos c12] at H
            have c12b0 : (a0_0 == 4) = true := beq_iff_eq.mpr c12
            have c12b1 : (a0_0 != 4) = false := bne_eq_false_iff_eq.mpr c12
            clear c12
            by_cases c13 : a0_1 = 0
            · rw [if_pos c13] at H
              have c13b0 : (a0_1 == 0) = true := beq_iff_eq.mpr c13
              have c13b1 : (a0_1 != 0) = false := bne_eq_false_iff_eq.mpr c13
              clear c13
              replace H := Option.bind_eq_some_iff.mp H
              obtain ⟨t139, A140, H⟩ := H
              replace H : (some t139) = some r := H
              have A14 := Aside0.mk A140
              clear A140
              obtain rfl := Option.some.inj H
              have hcz15_0 : wc.cell? ⟨gb138, 0, none⟩ = some (.int .i64 a0_0) := (blk_cell BK138.out 0).trans rfl
              have hcz15_1 : wc.cell? ⟨gb138, 1, none⟩ = some (.int .u64 a0_1) := (blk_cell BK138.out 1).trans rfl
              have hcz15_2 : wc.cell? ⟨gb138, 2, none⟩ = some (.string a0_2) := (blk_cell BK138.out 2).trans rfl
              have hfz15_0 := blk_frozen BK138.out 0
              have hfz15_1 := blk_frozen BK138.out 1
              have hfz15_2 := blk_frozen BK138.out 2
              go_wp2_with (first | (go_at_call 31; (with_reducible refine (stratumref03_Valid.calls kj1 a0_2 t139 _ A14.out).mono ?_); rintro e w16 ⟨rfl, hb⟩; have n0_ := Aside0.mk (blk_below (g := gb138) (o := .cells #[.int .i64 a0_0, .int .u64 a0_1, .string a0_2] 27 (0, 0)) (by (with_reducible repeat (first | refine blk_drewN ?_ _ | refine blk_drew ?_ | refine blk_alloc ?_ _)); exact BK138.out) hb); have n1_ := Aside0.mk (below_step (by repeat (first | (with_reducible first | exact HB.out | apply below_alloc | apply pw_below_drewN | apply below_drew1 | refine below_set ?_ GE138.out) | exact HB.out)) hb); clear BK138; clear HB; have BK138 := n0_; have HB := n1_; clear n0_ n1_; (try clear hb); (try clear hb2); (try clear hk); (try clear hi)))
              go_ret
              exact ⟨by first | rfl | (simp [errW_none, errW_some] <;> rfl) | (simp [*, errW_none, errW_some] <;> rfl), by repeat (first | (with_reducible first | exact HB.out | apply below_alloc | apply pw_below_drewN | apply below_drew1 | refine below_set ?_ GE138.out) | exact HB.out)⟩
            · rw [if_neg c13] at H
              have c13b0 : (a0_1 == 0) = false := beq_eq_false_iff_ne.mpr c13
              have c13b1 : (a0_1 != 0) = true := bne_iff_ne.mpr c13
              obtain rfl := Option.some.inj H
              have hcz17_0 : wc.cell? ⟨gb138, 0, none⟩ = some (.int .i64 a0_0) := (blk_cell BK138.out 0).trans rfl
              have hcz17_1 : wc.cell? ⟨gb138, 1, none⟩ = some (.int .u64 a0_1) := (blk_cell BK138.out 1).trans rfl
              have hcz17_2 : wc.cell? ⟨gb138, 2, none⟩ = some (.string a0_2) := (blk_cell BK138.out 2).trans rfl
              have hfz17_0 := blk_frozen BK138.out 0
              have hfz17_1 := blk_frozen BK138.out 1
              have hfz17_2 := blk_frozen BK138.out 2
              go_wp2
              go_ret
              exact ⟨by first | rfl | (simp [errW_none, errW_some] <;> rfl) | (simp [*, errW_none, errW_some] <;> rfl), by repeat (first | (with_reducible first | exact HB.out | apply below_alloc | apply pw_below_drewN | apply below_drew1 | refine below_set ?_ GE138.out) | exact HB.out)⟩
          · rw [if_neg c12] at H
            have c12b0 : (a0_0 == 4) = false := beq_eq_false_iff_ne.mpr c12
            have c12b1 : (a0_0 != 4) = true := bne_iff_ne.mpr c12
            by_cases c18 : a0_0 = 5
            · rw [if_pos c18] at H
              have c18b0 : (a0_0 == 5) = true := beq_iff_eq.mpr c18
              have c18b1 : (a0_0 != 5) = false := bne_eq_false_iff_eq.mpr c18
              clear c18
              obtain rfl := Option.some.inj H
              have hcz19_0 : wc.cell? ⟨gb138, 0, none⟩ = some (.int .i64 a0_0) := (blk_cell BK138.out 0).trans rfl
              have hcz19_1 : wc.cell? ⟨gb138, 1, none⟩ = some (.int .u64 a0_1) := (blk_cell BK138.out 1).trans rfl
              have hcz19_2 : wc.cell? ⟨gb138, 2, none⟩ = some (.string a0_2) := (blk_cell BK138.out 2).trans rfl
              have hfz19_0 := blk_frozen BK138.out 0
              have hfz19_1 := blk_frozen BK138.out 1
              have hfz19_2 := blk_frozen BK138.out 2
              go_wp2
              go_ret
              exact ⟨by first | rfl | (simp [errW_none, errW_some] <;> rfl) | (simp [*, errW_none, errW_some] <;> rfl), by repeat (first | (with_reducible first | exact HB.out | apply below_alloc | apply pw_below_drewN | apply below_drew1 | refine below_set ?_ GE138.out) | exact HB.out)⟩
            · rw [if_neg c18] at H
              have c18b0 : (a0_0 == 5) = false := beq_eq_false_iff_ne.mpr c18
              have c18b1 : (a0_0 != 5) = true := bne_iff_ne.mpr c18
              obtain rfl := Option.some.inj H
              go_wp2
              go_ret
              exact ⟨by first | rfl | (simp [errW_none, errW_some] <;> rfl) | (simp [*, errW_none, errW_some] <;> rfl), by repeat (first | (with_reducible first | exact HB.out | apply below_alloc | apply pw_below_drewN | apply below_drew1 | refine below_set ?_ GE138.out) | exact HB.out)⟩

/-! ### stratumref06_To: function 22 -/
def stratumref06_To.f (a0 : Int) : Option (Int) := (stratumref06_kinds.f a0).bind fun bt140 => (some bt140.2)
set_option maxHeartbeats 8000000 in
set_option maxRecDepth 100000 in
theorem stratumref06_To.calls (a0 : Int) (r : Int) (w : World) (h : stratumref06_To.f a0 = some r) :
    Calls Tryz.prog 22 #[.int .i64 a0] w fun e w' => e = .returned (.int .i64 r) ∧ Below w.heap.size w w' := by
  have HB := Aside0.mk (Below.refl w.heap.size w)
  have H : ((stratumref06_kinds.f a0).bind fun bt140 => (some bt140.2)) = some r := h
  clear h
  replace H := Option.bind_eq_some_iff.mp H
  obtain ⟨⟨t140, t141⟩, A20, H⟩ := H
  replace H : (some t141) = some r := H
  have A2 := Aside0.mk A20
  clear A20
  obtain rfl := Option.some.inj H
  go_enter Tryz.func22, Tryz.ntmps22
  go_wp2_with (first | ((with_reducible refine gate_callee (f := 37) rfl ?_); refine goesL_ (some 7) rfl rfl Tryz.func37 (by kernel_rfl) rfl #[.int .i64 a0] rfl (by (try simp only [List.map_toArray, List.map_cons, List.map_nil]); first | done | rfl | (simp only [List.length_drop, List.length_take]; rfl)) ?_; (with_reducible refine (stratumref06_kinds.calls a0 t140 t141 _ A2.out).mono ?_); rintro e w3 ⟨rfl, hb⟩; refine ⟨_, rfl, ?_⟩; have n0_ := Aside0.mk (below_step (by repeat (first | (with_reducible first | exact HB.out | apply below_alloc | apply pw_below_drewN | apply below_drew1) | exact HB.out)) hb); clear HB; have HB := n0_; clear n0_; (try clear hb); (try clear hb2); (try clear hk); (try clear hi)))
  go_ret
  exact ⟨by first | rfl | (simp [errW_none, errW_some] <;> rfl) | (simp [*, errW_none, errW_some] <;> rfl), by repeat (first | (with_reducible first | exact HB.out | apply below_alloc | apply pw_below_drewN | apply below_drew1) | exact HB.out)⟩

end Go.Proofs.YthfhkfebkpdkcaaGreatDoor.P
