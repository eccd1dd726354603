/- Plain functions for Go functions of the program, each with a proof that the Go call comes to it (no condition but those that each theorem names). Written by a program of this session. -/
import Derived.Test.YthfhkfebkpdkcaaGreatDoorUP0
import Derived.Test.YthfhkfebkpdkcaaGreatDoorUP4
namespace Go.Proofs.YthfhkfebkpdkcaaGreatDoor.P
open Go.RowKit Go.Proofs.YthfhkfebkpdkcaaGreatDoorW.PrintWords Go.Proofs.YthfhkfebkpdkcaaGreatDoorW.PrintLast Go.Proofs.YthfhkfebkpdkcaaGreatDoorW.PrintMore
set_option linter.unusedVariables false
set_option linter.unusedSimpArgs false

/-! ### stratumref03_Fault: function 45 -/
def stratumref03_Fault.l0 : Nat → ByteArray → Int → Option (Int)
  | 0, _, _ => none
  | k + 1, x0, x3 => if x3 < (x0.size : Int) then (if 0 ≤ x3 then (if x3 ≤ (x0.size : Int) then ((stratumref03_Next.f k (x0.extract (x3 : Int).toNat x0.size)).bind fun bt135 => (if bt135.1 < 0 then (some x3) else (stratumref03_Fault.l0 k x0 (wrap64 (x3 + bt135.2))))) else (none)) else (none)) else (some x3)
def stratumref03_Fault.f (k : Nat) (a0 : ByteArray) : Option (Int) := stratumref03_Fault.l0 k a0 0
theorem stratumref03_Fault.mono_l : ∀ k, (∀ y0 y1, LeO (stratumref03_Fault.l0 k y0 y1) (stratumref03_Fault.l0 (k + 1) y0 y1))
  | 0 => fun _ _ r h => by simp [stratumref03_Fault.l0] at h
  | k + 1 => by
    have ih0 := stratumref03_Fault.mono_l k
    · intro y0 y1
      unfold stratumref03_Fault.l0
      repeat' first
      | (with_reducible exact ih0 _ _)
      | (with_reducible exact stratumref03_Next.mono _ _)
      | (with_reducible exact LeO.refl _)
      | (with_reducible exact LeO.none _)
      | (with_reducible refine LeO.ite ?_ ?_)
      | (with_reducible refine LeO.bind ?_ (fun _ => ?_))
      | exact ih0 _ _
      | exact stratumref03_Next.mono _ _
      | exact LeO.none _
      | refine LeO.ite ?_ ?_
      | refine LeO.bind ?_ (fun _ => ?_)
theorem stratumref03_Fault.mono : ∀ a0 k, LeO (stratumref03_Fault.f k a0) (stratumref03_Fault.f (k + 1) a0) := by
  intro a0 k
  have ih0 := stratumref03_Fault.mono_l k
  unfold stratumref03_Fault.f
  repeat' first
      | (with_reducible exact ih0 _ _)
      | (with_reducible exact stratumref03_Next.mono _ _)
      | (with_reducible exact LeO.refl _)
      | (with_reducible exact LeO.none _)
      | (with_reducible refine LeO.ite ?_ ?_)
      | (with_reducible refine LeO.bind ?_ (fun _ => ?_))
      | exact ih0 _ _
      | exact stratumref03_Next.mono _ _
      | exact LeO.none _
      | refine LeO.ite ?_ ?_
      | refine LeO.bind ?_ (fun _ => ?_)
set_option maxHeartbeats 8000000 in
set_option maxRecDepth 100000 in
theorem stratumref03_Fault.calls (k : Nat) (a0 : ByteArray) (r : Int) (w : World) (h : stratumref03_Fault.f k a0 = some r) :
    Calls Tryz.prog 45 #[.string a0] w fun e w' => e = .returned (.int .i64 r) ∧ Below w.heap.size w w' := by
  have HB := Aside0.mk (Below.refl w.heap.size w)
  have H : (stratumref03_Fault.l0 k a0 0) = some r := h
  clear h
  have H' := Aside0.mk H
  clear H
  go_enter Tryz.func45, Tryz.ntmps45
  go_wp2
  go_loopg [3] k (fun kq v3 w' => ∃ (x3_1 : Int), v3 = .int .i64 x3_1 ∧ Aside0 (stratumref03_Fault.l0 kq a0 x3_1 = some r) ∧ Aside0 (kq ≤ k) ∧ Aside0 (Below w.heap.size w w'))
  case atStart => exact ⟨(0), (by first | rfl | (simp; done) | (simp [*]; done)), H', ⟨Nat.le_refl _⟩, ⟨by repeat (first | (with_reducible first | exact HB.out | apply below_alloc | apply pw_below_drewN | apply below_drew1) | exact HB.out)⟩⟩
  case round =>
    clear H'
    obtain ⟨x3_1, rfl, HA, HK1, HB⟩ := hrel
    cases gk with
    | zero => exact absurd HA.out (by simp [stratumref03_Fault.l0])
    | succ k1 =>
      have H := HA.out
      clear HA
      simp only [stratumref03_Fault.l0] at H
      by_cases c2 : x3_1 < (a0.size : Int)
      · rw [if_pos c2] at H
        have c2b0 : decide (x3_1 < (a0.size : Int)) = true := decide_eq_true c2
        clear c2
        by_cases c3 : 0 ≤ x3_1
        · rw [if_pos c3] at H
          have c3b0 := eq_true c3
          have c3b1 : decide (0 ≤ x3_1) = true := decide_eq_true c3
          clear c3
          by_cases c4 : x3_1 ≤ (a0.size : Int)
          · rw [if_pos c4] at H
            have c4b0 := eq_true c4
            have c4b1 : decide (x3_1 ≤ (a0.size : Int)) = true := decide_eq_true c4
            clear c4
            replace H := Option.bind_eq_some_iff.mp H
            obtain ⟨⟨t135, t136⟩, A50, H⟩ := H
            replace H : (if t135 < 0 then (some x3_1) else (stratumref03_Fault.l0 k1 a0 (wrap64 (x3_1 + t136)))) = some r := H
            have A5 := Aside0.mk A50
            clear A50
            by_cases c6 : t135 < 0
            · rw [if_pos c6] at H
              have c6b0 : decide (t135 < 0) = true := decide_eq_true c6
              clear c6
              obtain rfl := Option.some.inj H
              go_wp2_with (first | ((with_reducible refine gate_callee (f := 61) rfl ?_); refine goesL_ (some 14) rfl rfl Tryz.func61 (by kernel_rfl) rfl #[.string (a0.extract (x3_1 : Int).toNat a0.size)] rfl (by (try simp only [List.map_toArray, List.map_cons, List.map_nil]); first | done | rfl | (simp only [List.length_drop, List.length_take]; rfl)) ?_; (with_reducible refine (stratumref03_Next.calls k1 (a0.extract (x3_1 : Int).toNat a0.size) t135 t136 _ A5.out).mono ?_); rintro e w7 ⟨rfl, hb⟩; refine ⟨_, rfl, ?_⟩; have n0_ := Aside0.mk (below_step (by repeat (first | (with_reducible first | exact HB.out | apply below_alloc | apply pw_below_drewN | apply below_drew1) | exact HB.out)) hb); clear HB; have HB := n0_; clear n0_; (try clear hb); (try clear hb2); (try clear hk); (try clear hi)))
              go_ret
              exact ⟨by first | rfl | (simp [errW_none, errW_some] <;> rfl) | (simp [*, errW_none, errW_some] <;> rfl), by repeat (first | (with_reducible first | exact HB.out | apply below_alloc | apply pw_below_drewN | apply below_drew1) | exact HB.out)⟩
            · rw [if_neg c6] at H
              have c6b0 : decide (t135 < 0) = false := decide_eq_false c6
              clear c6
              have H' := Aside0.mk H
              clear H
              go_wp2_with (first | ((with_reducible refine gate_callee (f := 61) rfl ?_); refine goesL_ (some 14) rfl rfl Tryz.func61 (by kernel_rfl) rfl #[.string (a0.extract (x3_1 : Int).toNat a0.size)] rfl (by (try simp only [List.map_toArray, List.map_cons, List.map_nil]); first | done | rfl | (simp only [List.length_drop, List.length_take]; rfl)) ?_; (with_reducible refine (stratumref03_Next.calls k1 (a0.extract (x3_1 : Int).toNat a0.size) t135 t136 _ A5.out).mono ?_); rintro e w8 ⟨rfl, hb⟩; refine ⟨_, rfl, ?_⟩; have n0_ := Aside0.mk (below_step (by repeat (first | (with_reducible first | exact HB.out | apply below_alloc | apply pw_below_drewN | apply below_drew1) | exact HB.out)) hb); clear HB; have HB := n0_; clear n0_; (try clear hb); (try clear hb2); (try clear hk); (try clear hi)))
              go_roundg k1
              case measure => have := HK1.out; omega
              case rel => exact ⟨(wrap64 (x3_1 + t136)), (by first | rfl | (simp; done) | (simp [*]; done)), H', ⟨by have := HK1.out; omega⟩, ⟨by repeat (first | (with_reducible first | exact HB.out | apply below_alloc | apply pw_below_drewN | apply below_drew1) | exact HB.out)⟩⟩
          · rw [if_neg c4] at H
            exact absurd H (by simp)
        · rw [if_neg c3] at H
          exact absurd H (by simp)
      · rw [if_neg c2] at H
        have c2b0 : decide (x3_1 < (a0.size : Int)) = false := decide_eq_false c2
        clear c2
        obtain rfl := Option.some.inj H
        go_wp2
        go_ret
        exact ⟨by first | rfl | (simp [errW_none, errW_some] <;> rfl) | (simp [*, errW_none, errW_some] <;> rfl), by repeat (first | (with_reducible first | exact HB.out | apply below_alloc | apply pw_below_drewN | apply below_drew1) | exact HB.out)⟩

/-! ### stratumref03_Valid: function 31 -/
def stratumref03_Valid.f (k : Nat) (a0 : ByteArray) : Option (Bool) := (stratumref03_Fault.f k a0).bind fun t137 => (some (t137 == (a0.size : Int)))
theorem stratumref03_Valid.mono : ∀ a0 k, LeO (stratumref03_Valid.f k a0) (stratumref03_Valid.f (k + 1) a0) := by
  intro a0 k
  unfold stratumref03_Valid.f
  repeat' first
      | (with_reducible exact stratumref03_Fault.mono _ _)
      | (with_reducible exact LeO.refl _)
      | (with_reducible exact LeO.none _)
      | (with_reducible refine LeO.ite ?_ ?_)
      | (with_reducible refine LeO.bind ?_ (fun _ => ?_))
      | exact stratumref03_Fault.mono _ _
      | exact LeO.none _
      | refine LeO.ite ?_ ?_
      | refine LeO.bind ?_ (fun _ => ?_)
set_option maxHeartbeats 8000000 in
set_option maxRecDepth 100000 in
theorem stratumref03_Valid.calls (k : Nat) (a0 : ByteArray) (r : Bool) (w : World) (h : stratumref03_Valid.f k a0 = some r) :
    Calls Tryz.prog 31 #[.string a0] w fun e w' => e = .returned (.bool r) ∧ Below w.heap.size w w' := by
  have HB := Aside0.mk (Below.refl w.heap.size w)
  have H : ((stratumref03_Fault.f k a0).bind fun t137 => (some (t137 == (a0.size : Int)))) = some r := h
  clear h
  replace H := Option.bind_eq_some_iff.mp H
  obtain ⟨t137, A20, H⟩ := H
  replace H : (some (t137 == (a0.size : Int))) = some r := H
  have A2 := Aside0.mk A20
  clear A20
  obtain rfl := Option.some.inj H
  go_enter Tryz.func31, Tryz.ntmps31
  go_wp2_with (first | ((with_reducible refine gate_callee (f := 45) rfl ?_); refine goesL_ (some 4) rfl rfl Tryz.func45 (by kernel_rfl) rfl #[.string a0] rfl (by (try simp only [List.map_toArray, List.map_cons, List.map_nil]); first | done | rfl | (simp only [List.length_drop, List.length_take]; rfl)) ?_; (with_reducible refine (stratumref03_Fault.calls k a0 t137 _ A2.out).mono ?_); rintro e w3 ⟨rfl, hb⟩; refine ⟨_, rfl, ?_⟩; have n0_ := Aside0.mk (below_step (by repeat (first | (with_reducible first | exact HB.out | apply below_alloc | apply pw_below_drewN | apply below_drew1) | exact HB.out)) hb); clear HB; have HB := n0_; clear n0_; (try clear hb); (try clear hb2); (try clear hk); (try clear hi)))
  go_ret
  exact ⟨by first | rfl | (simp [errW_none, errW_some] <;> rfl) | (simp [*, errW_none, errW_some] <;> rfl), by repeat (first | (with_reducible first | exact HB.out | apply below_alloc | apply pw_below_drewN | apply below_drew1) | exact HB.out)⟩

end Go.Proofs.YthfhkfebkpdkcaaGreatDoor.P
