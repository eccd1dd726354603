/- seal.Read answers a plain function of the bytes, for every list of bytes. -/
import Derived.Test.YtpmebnkjcekmmaaGreatDoorMrk
import Derived.Test.YtpmebnkjcekmmaaGreatDoorT10
import Derived.Test.YtpmebnkjcekmmaaGreatDoorT10
namespace Go.Proofs.YtpmebnkjcekmmaaGreatDoor
open Go.RowKit Go.Lib Go.Proofs.YtpmebnkjcekmmaaGreatDoorW.PrintWords Go.Proofs.YtpmebnkjcekmmaaGreatDoorW.PrintLast
set_option linter.unusedVariables false
set_option linter.unusedSimpArgs false

/-! ### seal.Read -/
def magicL : List UInt8 := [83, 84, 82, 65, 84, 85, 77, 49]
def markL : List Int := [51, 52, 123, 51, 148, 75, 221, 93]
theorem little_mark : T.seal_little.f 10 [] 6763645315271308339 = some markL := by kernel_rfl
def numStep (l : List Int) (n : Int) (i : Nat) : Int := Go.bits .or .u64 (IntKind.u64.wrap (n * 256)) (IntKind.u64.wrap (rd l (i : Int)))
def numL (l : List Int) : Int := [23, 22, 21, 20, 19, 18, 17, 16].foldl (numStep l) 0
def sameL (a b : List Int) : Bool := (strOfNums a).toList == (strOfNums b).toList
def readL (l : List Int) : Int × Int :=
  if l.length < 512 then (0, 5) else if (strOfNums (l.take 8)).toList = magicL then (if sameL ((l.take 512).drop 24) (List.replicate 488 0) = true then (if sameL ((l.take 16).drop 8) markL = true then (numL l, 0) else (0, 221)) else (0, 3)) else (0, 3)
theorem read_short (l0 : List Int) (A0 : Option Addr) (c0 : Nat) (w : World) (h : l0.length < 512) : Calls Tryz.prog 12 #[.slice A0 l0.length c0] w fun e w' => e = .returned (.tuple #[.int .u64 (readL l0).1, .int .i64 (readL l0).2]) ∧ Below w.heap.size w w' := by
  have e : readL l0 = (0, 5) := if_pos h
  rw [e]
  have t1 : decide ((l0.length : Int) < 512) = true := decide_eq_true (by omega)
  clear e
  go_enter Tryz.func12, Tryz.ntmps12
  go_wp2
  go_ret2
  exact ⟨rfl, Below.refl _ _⟩
def read3.T3 : Bool × List (List Nat × List Nat) := (true, [([], []), ([0], [0]), ([1], [1]), ([2], [2]), ([3], [3]), ([4], [4]), ([5, 4], [4, 5]), ([4], [4]), ([6, 7, 4, 4], [4, 6, 7]), ([8, 4], [4, 8]), ([4, 9], [4, 9])])
def read3.B3 : List Nat := [0, 1, 3, 7, 15, 31, 63, 31, 255, 511, 1023]
theorem read3.tab3 : rtab .any (opsOf Tryz.f12 3) = read3.T3 := by kernel_rfl
theorem read3.bits3 : waitsOk read3.T3.2 read3.B3 = true := by kernel_rfl
set_option maxRecDepth 100000 in
set_option maxHeartbeats 4000000 in
theorem read_word (l0 : List Int) (A0 : Option Addr) (c0 : Nat) (w : World) (hr0 : Kd.C (Kd.int .u8) w A0 l0.length l0) (hc0 : l0.length ≤ c0) (h : ¬ l0.length < 512) (hm : ¬ (strOfNums (l0.take 8)).toList = magicL) :
    Calls Tryz.prog 12 #[.slice A0 l0.length c0] w fun e w' => e = .returned (.tuple #[.int .u64 (readL l0).1, .int .i64 (readL l0).2]) ∧ Below w.heap.size w w' := by
  have e : readL l0 = (0, 3) := (if_neg h).trans (if_neg hm)
  rw [e]
  have t1 : decide ((l0.length : Int) < 512) = false := decide_eq_false (by omega)
  have hcv := Kd.C_string (c := c0) Tryz.underlying27 Tryz.underlying5 Tryz.underlying9 (Kd.C_drew (Kd.C_take (m := 8) hr0 (by omega)))
  rw [show (l0.take 8).length = 8 by rw [List.length_take]; omega] at hcv
  have hm1 : ((strOfNums (l0.take 8)).toList == magicL) = false := beq_eq_false_iff_ne.2 hm
  have hm2 : ((strOfNums (l0.take 8)).toList != magicL) = true := bne_iff_ne.2 hm
  have k8 : 8 ≤ c0 := by omega
  have i8 : (8 : Int) ≤ (c0 : Int) := by omega
  unfold magicL at hm1 hm2
  clear e hm
  go_enter Tryz.func12, Tryz.ntmps12
  go_wp2
  refine start_ (n := 11) (S := fun w' => True) (ds := []) #[false, false, false, false, false, false, false, false, false, false, false] (by kernel_rfl) rfl rfl trivial (fun hHeld => ?_)
  refine with_tabW read3.tab3 read3.bits3 (fun HT_ HW_ => ?_)
  refine pure_ (i := 0) (N := some 9) (v := ?_) (a' := ?_) #[true, false, false, false, false, false, false, false, false, false, false] rfl rfl (any_of HT_.out (by kernel_rfl)) (fun _ _ _ h => h) (Or.inl ⟨by rfl, ?_⟩) ?_ ?_
  rotate_left
  · intro w'
    go_simp
    with_reducible rfl
  rotate_left
  · simp only [Act.put, List.setIfInBounds_toArray, List.set_cons_zero, List.set_cons_succ, i64_w, i32_w]
    rfl
  refine pure_ (i := 1) (N := some 10) (v := ?_) (a' := ?_) #[true, true, false, false, false, false, false, false, false, false, false] rfl rfl (any_of HT_.out (by kernel_rfl)) (fun _ _ _ h => h) (Or.inl ⟨by rfl, ?_⟩) ?_ ?_
  rotate_left
  · intro w'
    go_simp
    with_reducible rfl
  rotate_left
  · simp only [Act.put, List.setIfInBounds_toArray, List.set_cons_zero, List.set_cons_succ, i64_w, i32_w]
    rfl
  refine one_ (i := 2) (N := some 11) #[true, true, true, false, false, false, false, false, false, false, false] rfl rfl (one_of HT_.out (by kernel_rfl)) (by decide) (fun K hK => ?_)
  refine value_ (w1 := ?_) (v := ?_) (by rfl) rfl ?_ ?_
  rotate_left 2
  · go_simp
    constructor
    · rfl
    · rfl
  refine hK.out _ _ trivial (fun hHeld => ?_)
  clear hK K
  refine norm_ (a' := ?_) ?_ ?_
  rotate_left
  · show Act.put _ (some 11) _ = _
    simp only [Act.put, List.setIfInBounds_toArray, List.set_cons_zero, List.set_cons_succ, i64_w, i32_w]
    rfl
  refine pure_ (i := 3) (N := some 12) (v := ?_) (a' := ?_) #[true, true, true, true, false, false, false, false, false, false, false] rfl rfl (any_of HT_.out (by kernel_rfl)) (fun _ _ _ h => h) (Or.inl ⟨by rfl, ?_⟩) ?_ ?_
  rotate_left
  · intro w'
    go_simp
    with_reducible rfl
  rotate_left
  · simp only [Act.put, List.setIfInBounds_toArray, List.set_cons_zero, List.set_cons_succ, i64_w, i32_w]
    rfl
  refine pure_ (i := 4) (N := some 13) (v := ?_) (a' := ?_) #[true, true, true, true, true, false, false, false, false, false, false] rfl rfl (any_of HT_.out (by kernel_rfl)) (fun _ _ _ h => h) (Or.inl ⟨by rfl, ?_⟩) ?_ ?_
  rotate_left
  · intro w'
    go_simp
    with_reducible rfl
  rotate_left
  · simp only [Act.put, List.setIfInBounds_toArray, List.set_cons_zero, List.set_cons_succ, i64_w, i32_w]
    rfl
  refine pure_ (i := 5) (N := some 14) (v := undef) (a' := ?_) #[true, true, true, true, true, true, false, false, false, false, false] rfl rfl (any_of HT_.out (by kernel_rfl)) (fun _ _ _ h => h) (Or.inr ⟨by rfl, rfl⟩) ?_ ?_
  rotate_left
  · simp only [Act.put, List.setIfInBounds_toArray, List.set_cons_zero, List.set_cons_succ, i64_w, i32_w]
    rfl
  refine pure_ (i := 6) (N := some 15) (v := undef) (a' := ?_) #[true, true, true, true, true, true, true, false, false, false, false] rfl rfl (any_of HT_.out (by kernel_rfl)) (fun _ _ _ h => h) (Or.inr ⟨by rfl, rfl⟩) ?_ ?_
  rotate_left
  · simp only [Act.put, List.setIfInBounds_toArray, List.set_cons_zero, List.set_cons_succ, i64_w, i32_w]
    rfl
  refine pure_ (i := 7) (N := some 16) (v := undef) (a' := ?_) #[true, true, true, true, true, true, true, true, false, false, false] rfl rfl (any_of HT_.out (by kernel_rfl)) (fun _ _ _ h => h) (Or.inr ⟨by rfl, rfl⟩) ?_ ?_
  rotate_left
  · simp only [Act.put, List.setIfInBounds_toArray, List.set_cons_zero, List.set_cons_succ, i64_w, i32_w]
    rfl
  refine pure_ (i := 8) (N := some 17) (v := undef) (a' := ?_) #[true, true, true, true, true, true, true, true, true, false, false] rfl rfl (any_of HT_.out (by kernel_rfl)) (fun _ _ _ h => h) (Or.inr ⟨by rfl, rfl⟩) ?_ ?_
  rotate_left
  · simp only [Act.put, List.setIfInBounds_toArray, List.set_cons_zero, List.set_cons_succ, i64_w, i32_w]
    rfl
  refine pure_ (i := 9) (N := some 18) (v := undef) (a' := ?_) #[true, true, true, true, true, true, true, true, true, true, false] rfl rfl (any_of HT_.out (by kernel_rfl)) (fun _ _ _ h => h) (Or.inr ⟨by rfl, rfl⟩) ?_ ?_
  rotate_left
  · simp only [Act.put, List.setIfInBounds_toArray, List.set_cons_zero, List.set_cons_succ, i64_w, i32_w]
    rfl
  refine pure_ (i := 10) (N := some 19) (v := ?_) (a' := ?_) #[true, true, true, true, true, true, true, true, true, true, true] rfl rfl (any_of HT_.out (by kernel_rfl)) (fun _ _ _ h => h) (Or.inl ⟨by rfl, ?_⟩) ?_ ?_
  rotate_left
  · intro w'
    go_simp
    with_reducible rfl
  rotate_left
  · simp only [Act.put, List.setIfInBounds_toArray, List.set_cons_zero, List.set_cons_succ, i64_w, i32_w]
    rfl
  refine done_ (done_of HT_.out (by kernel_rfl)) ?_

  go_wp2
  go_ret2
  exact ⟨rfl, (Below.refl _ _).drew⟩
theorem equal_any (A1 : Option Addr) (n1 c1 : Nat) (l1 : List Int) (A2 : Option Addr) (n2 c2 : Nat) (l2 : List Int) (w : World) (e1 : l1.length = n1) (e2 : l2.length = n2) (h1 : Kd.C (Kd.int .u8) w A1 n1 l1) (k1 : n1 ≤ c1) (h2 : Kd.C (Kd.int .u8) w A2 n2 l2) (k2 : n2 ≤ c2) (b : Bool) (hb : sameL l1 l2 = b) :
    Calls Tryz.prog 42 #[.slice A1 n1 c1, .slice A2 n2 c2] w fun e w' => e = .returned (.bool b) ∧ Below w.heap.size w w' := by
  subst e1 e2 hb
  exact (T.bytes_Equal.calls A1 c1 l1 A2 c2 l2 (sameL l1 l2) w h1 k1 h2 k2 rfl).mono fun e w' ⟨he, hd⟩ => ⟨he, hd.below⟩
def numJ (l : List Int) : Nat → Int
  | 0 => 0
  | j + 1 => Go.bits .or .u64 (IntKind.u64.wrap (numJ l j * 256)) (IntKind.u64.wrap (rd l (23 - (j : Int))))
theorem numJ_all (l : List Int) : numL l = numJ l 8 := rfl
theorem byte_info2 : ((Tryz.prog).info? 5).map (fun i => (i.zero, i.size, i.bytes)) = some (some (.int .u8 0), 1, 1) := by kernel_rfl
theorem zeros_read {w : World} {base g m : Nat} (h : w.ownsRow base 5 1 (.slice (some ⟨g, 0, none⟩) m m) m (nums .u8 (List.replicate m 0))) : Kd.C (Kd.int .u8) w (some ⟨g, 0, none⟩) m (List.replicate m 0) := by
  have := (Kd.R_reads' (Kd.R_of_own (ok := fun _ => True) (xs := List.replicate m (0 : Int)) (enc := Value.int .u8) (h1 := fun _ => rfl) (by rw [List.length_replicate]; exact h) (fun _ _ => trivial))).2.2
  rw [List.length_replicate] at this
  exact this
/-- A cut of the argument. -/
theorem cut_of (lo hi : Nat) (l0 : List Int) (A0 : Option Addr) (c0 : Nat) (w : World) (hr0 : Kd.C (Kd.int .u8) w A0 l0.length l0) (hc0 : l0.length ≤ c0) (h1 : lo ≤ hi) (h2 : hi ≤ l0.length) :
    ∃ A : Option Addr, (∀ W : World, (Instr.slice 27 (.slice A0 l0.length c0) (some (.int .i64 (lo : Int))) (some (.int .i64 (hi : Int))) none).run Tryz.prog W = .ok (.slice A (hi - lo) (c0 - lo)) W) ∧ Kd.C (Kd.int .u8) w A (hi - lo) ((l0.take hi).drop lo) := by
  obtain ⟨i0, hi0, hz0, hz1, hz2⟩ := info_parts byte_info2
  refine ⟨if c0 = lo then A0 else A0.map (·.add (lo * 1)), fun W => ?_, ?_⟩
  · have := cut_mid 27 5 .i64 .i64 Tryz.underlying27 hi0 1 hz1 A0 l0.length c0 (lo : Int) (hi : Int) (by omega) (by omega) (by omega) hc0 W
    simpa only [Int.toNat_natCast] using this
  · have := Kd.C_mid (c := c0) hr0 h1 h2 hc0
    rw [show ((l0.take hi).drop lo).length = hi - lo by rw [List.length_drop, List.length_take]; omega] at this
    exact this

def read5.T5 : Bool × List (List Nat × List Nat) := (true, [([], []), ([0], [0]), ([], []), ([2, 2], [2]), ([1, 3, 3], [1, 3]), ([4], [4])])
def read5.B5 : List Nat := [0, 1, 0, 4, 15, 31]
theorem read5.tab5 : rtab .any (opsOf Tryz.f12 5) = read5.T5 := by kernel_rfl
theorem read5.bits5 : waitsOk read5.T5.2 read5.B5 = true := by kernel_rfl
set_option maxRecDepth 100000 in
set_option maxHeartbeats 4000000 in
theorem read_zeros (l0 : List Int) (A0 : Option Addr) (c0 : Nat) (w : World) (hr0 : Kd.C (Kd.int .u8) w A0 l0.length l0) (hc0 : l0.length ≤ c0) (h : ¬ l0.length < 512) (hm : (strOfNums (l0.take 8)).toList = magicL) (hz : sameL ((l0.take 512).drop 24) (List.replicate 488 0) = false) :
    Calls Tryz.prog 12 #[.slice A0 l0.length c0] w fun e w' => e = .returned (.tuple #[.int .u64 (readL l0).1, .int .i64 (readL l0).2]) ∧ Below w.heap.size w w' := by
  have e : readL l0 = (0, 3) := (if_neg h).trans ((if_pos hm).trans (if_neg (by rw [hz]; decide)))
  rw [e]
  clear e
  have HZ := Lib.hid hz
  clear hz
  have t1 : decide ((l0.length : Int) < 512) = false := decide_eq_false (by omega)
  have hcv := Kd.C_string (c := c0) Tryz.underlying27 Tryz.underlying5 Tryz.underlying9 (Kd.C_drew (Kd.C_take (m := 8) hr0 (by omega)))
  rw [show (l0.take 8).length = 8 by rw [List.length_take]; omega] at hcv
  have hm1 : ((strOfNums (l0.take 8)).toList == magicL) = true := beq_iff_eq.2 hm
  have hm2 : ((strOfNums (l0.take 8)).toList != magicL) = false := bne_eq_false_iff_eq.2 hm
  have k8 : 8 ≤ c0 := by omega
  have i8 : (8 : Int) ≤ (c0 : Int) := by omega
  unfold magicL at hm1 hm2
  obtain ⟨A24, hcut24, hk24⟩ := cut_of 24 512 l0 A0 c0 w hr0 hc0 (by decide) (by omega)
  obtain ⟨A8, hcut8, hk8⟩ := cut_of 8 16 l0 A0 c0 w hr0 hc0 (by decide) (by omega)
  have hmk := print_make (P := Tryz.prog) 27 5 .u8 1 Tryz.underlying27 byte_info2 (by decide) 488 (by decide)
  have K24 := Lib.hid hk24
  have K8 := Lib.hid hk8
  have L24 := Lib.hid (show ((l0.take 512).drop 24).length = 488 by rw [List.length_drop, List.length_take]; omega)
  have L8 := Lib.hid (show ((l0.take 16).drop 8).length = 8 by rw [List.length_drop, List.length_take]; omega)
  have G24 := Lib.hid (show 488 ≤ c0 - 24 by omega)
  have G8 := Lib.hid (show 8 ≤ c0 - 8 by omega)
  have HR0 := Lib.hid hr0
  have HH := Lib.hid h
  simp only [Int.cast_ofNat_Int] at hcut24 hcut8 hmk
  clear hm hk24 hk8 hr0 h
  go_enter Tryz.func12, Tryz.ntmps12
  go_wp2
  refine start_ (n := 11) (S := fun w' => True) (ds := []) #[false, false, false, false, false, false, false, false, false, false, false] (by kernel_rfl) rfl rfl trivial (fun hHeld => ?_)
  refine with_tabW read3.tab3 read3.bits3 (fun HT_ HW_ => ?_)
  refine pure_ (i := 0) (N := some 9) (v := ?_) (a' := ?_) #[true, false, false, false, false, false, false, false, false, false, false] rfl rfl (any_of HT_.out (by kernel_rfl)) (fun _ _ _ h => h) (Or.inl ⟨by rfl, ?_⟩) ?_ ?_
  rotate_left
  · intro w'
    go_simp
    with_reducible rfl
  rotate_left
  · simp only [Act.put, List.setIfInBounds_toArray, List.set_cons_zero, List.set_cons_succ, i64_w, i32_w]
    rfl
  refine pure_ (i := 1) (N := some 10) (v := ?_) (a' := ?_) #[true, true, false, false, false, false, false, false, false, false, false] rfl rfl (any_of HT_.out (by kernel_rfl)) (fun _ _ _ h => h) (Or.inl ⟨by rfl, ?_⟩) ?_ ?_
  rotate_left
  · intro w'
    go_simp
    with_reducible rfl
  rotate_left
  · simp only [Act.put, List.setIfInBounds_toArray, List.set_cons_zero, List.set_cons_succ, i64_w, i32_w]
    rfl
  refine one_ (i := 2) (N := some 11) #[true, true, true, false, false, false, false, false, false, false, false] rfl rfl (one_of HT_.out (by kernel_rfl)) (by decide) (fun K hK => ?_)
  refine value_ (w1 := ?_) (v := ?_) (by rfl) rfl ?_ ?_
  rotate_left 2
  · go_simp
    constructor
    · rfl
    · rfl
  refine hK.out _ _ trivial (fun hHeld => ?_)
  clear hK K
  refine norm_ (a' := ?_) ?_ ?_
  rotate_left
  · show Act.put _ (some 11) _ = _
    simp only [Act.put, List.setIfInBounds_toArray, List.set_cons_zero, List.set_cons_succ, i64_w, i32_w]
    rfl
  refine pure_ (i := 3) (N := some 12) (v := ?_) (a' := ?_) #[true, true, true, true, false, false, false, false, false, false, false] rfl rfl (any_of HT_.out (by kernel_rfl)) (fun _ _ _ h => h) (Or.inl ⟨by rfl, ?_⟩) ?_ ?_
  rotate_left
  · intro w'
    go_simp
    with_reducible rfl
  rotate_left
  · simp only [Act.put, List.setIfInBounds_toArray, List.set_cons_zero, List.set_cons_succ, i64_w, i32_w]
    rfl
  refine pure_ (i := 4) (N := some 13) (v := ?_) (a' := ?_) #[true, true, true, true, true, false, false, false, false, false, false] rfl rfl (any_of HT_.out (by kernel_rfl)) (fun _ _ _ h => h) (Or.inl ⟨by rfl, ?_⟩) ?_ ?_
  rotate_left
  · intro w'
    go_simp
    with_reducible rfl
  rotate_left
  · simp only [Act.put, List.setIfInBounds_toArray, List.set_cons_zero, List.set_cons_succ, i64_w, i32_w]
    rfl
  refine pure_ (i := 5) (N := some 14) (v := ?_) (a' := ?_) #[true, true, true, true, true, true, false, false, false, false, false] rfl rfl (any_of HT_.out (by kernel_rfl)) (fun _ _ _ h => h) (Or.inl ⟨by rfl, ?_⟩) ?_ ?_
  rotate_left
  · intro w'
    go_simp
    with_reducible rfl
  rotate_left
  · simp only [Act.put, List.setIfInBounds_toArray, List.set_cons_zero, List.set_cons_succ, i64_w, i32_w]
    rfl
  refine pure_ (i := 6) (N := some 15) (v := ?_) (a' := ?_) #[true, true, true, true, true, true, true, false, false, false, false] rfl rfl (any_of HT_.out (by kernel_rfl)) (fun _ _ _ h => h) (Or.inl ⟨by rfl, ?_⟩) ?_ ?_
  rotate_left
  · intro w'
    go_simp
    with_reducible rfl
  rotate_left
  · simp only [Act.put, List.setIfInBounds_toArray, List.set_cons_zero, List.set_cons_succ, i64_w, i32_w]
    rfl
  refine one_ (i := 7) (N := some 16) #[true, true, true, true, true, true, true, true, false, false, false] rfl rfl (one_of HT_.out (by kernel_rfl)) (by decide) (fun K hK => ?_)
  refine value_ (w1 := ?_) (v := ?_) (by rfl) rfl ?_ ?_
  rotate_left 2
  · go_simp
    constructor
    · rfl
    · rfl
  have hO := pw_own_below (own_made w w.heap.size 5 .u8 488 (Nat.le_refl _) (by decide)) (below_drew (Below.refl _ _))
  have hB0 := below_drew (below_alloc (Below.refl w.heap.size w) (.cells (madeCells #[.int .u8 0] 488) 5))
  generalize (w.alloc (.cells (madeCells #[Value.int .u8 0] 488) 5)).drew = wm at hO hB0 ⊢
  have HO := Lib.hid hO
  have HB0 := Lib.hid hB0
  clear hO hB0
  refine hK.out _ _ trivial (fun hHeld => ?_)
  clear hK K
  refine norm_ (a' := ?_) ?_ ?_
  rotate_left
  · show Act.put _ (some 16) _ = _
    simp only [Act.put, List.setIfInBounds_toArray, List.set_cons_zero, List.set_cons_succ, i64_w, i32_w]
    rfl
  refine one_ (i := 8) (N := some 17) #[true, true, true, true, true, true, true, true, true, false, false] rfl rfl (one_of HT_.out (by kernel_rfl)) (by decide) (fun K hK => ?_)
  refine goes_ Tryz.func42 (by kernel_rfl) rfl #[.slice A24 488 (c0 - 24), .slice (some ⟨w.heap.size, 0, none⟩) 488 488] (by rfl) rfl rfl (by (try simp only [List.map_toArray, List.map_cons, List.map_nil]); first | done | rfl) ?_
  with_reducible refine (equal_any A24 488 (c0 - 24) ((l0.take 512).drop 24) (some ⟨w.heap.size, 0, none⟩) 488 488 (List.replicate 488 0) _ L24.out (List.length_replicate ..) (Kd.C_below K24.out HB0.out) G24.out (zeros_read HO.out) (Nat.le_refl _) false HZ.out).mono ?_
  rintro e we ⟨rfl, hbe⟩
  refine ⟨_, rfl, ?_⟩
  have HB1 := Lib.hid (below_then HB0.out HB0.out.size hbe)
  clear hbe HO
  refine hK.out _ _ trivial (fun hHeld => ?_)
  clear hK K
  refine norm_ (a' := ?_) ?_ ?_
  rotate_left
  · show Act.put _ (some 17) _ = _
    simp only [Act.put, List.setIfInBounds_toArray, List.set_cons_zero, List.set_cons_succ, i64_w, i32_w]
    rfl
  refine pure_ (i := 9) (N := some 18) (v := ?_) (a' := ?_) #[true, true, true, true, true, true, true, true, true, true, false] rfl rfl (any_of HT_.out (by kernel_rfl)) (fun _ _ _ h => h) (Or.inl ⟨by rfl, ?_⟩) ?_ ?_
  rotate_left
  · intro w'
    go_simp
    with_reducible rfl
  rotate_left
  · simp only [Act.put, List.setIfInBounds_toArray, List.set_cons_zero, List.set_cons_succ, i64_w, i32_w]
    rfl
  refine pure_ (i := 10) (N := some 19) (v := ?_) (a' := ?_) #[true, true, true, true, true, true, true, true, true, true, true] rfl rfl (any_of HT_.out (by kernel_rfl)) (fun _ _ _ h => h) (Or.inl ⟨by rfl, ?_⟩) ?_ ?_
  rotate_left
  · intro w'
    go_simp
    with_reducible rfl
  rotate_left
  · simp only [Act.put, List.setIfInBounds_toArray, List.set_cons_zero, List.set_cons_succ, i64_w, i32_w]
    rfl
  refine done_ (done_of HT_.out (by kernel_rfl)) ?_

  go_wp2
  go_ret2
  exact ⟨rfl, HB1.out⟩
set_option maxRecDepth 100000 in
set_option maxHeartbeats 4000000 in
theorem read_mark (l0 : List Int) (A0 : Option Addr) (c0 : Nat) (w : World) (hr0 : Kd.C (Kd.int .u8) w A0 l0.length l0) (hc0 : l0.length ≤ c0) (h : ¬ l0.length < 512) (hm : (strOfNums (l0.take 8)).toList = magicL) (hz : sameL ((l0.take 512).drop 24) (List.replicate 488 0) = true) (hk : sameL ((l0.take 16).drop 8) markL = false) :
    Calls Tryz.prog 12 #[.slice A0 l0.length c0] w fun e w' => e = .returned (.tuple #[.int .u64 (readL l0).1, .int .i64 (readL l0).2]) ∧ Below w.heap.size w w' := by
  have e : readL l0 = (0, 221) := (if_neg h).trans ((if_pos hm).trans ((if_pos hz).trans (if_neg (by rw [hk]; decide))))
  rw [e]
  clear e
  have HK := Lib.hid hk
  clear hk
  have HZ := Lib.hid hz
  clear hz
  have t1 : decide ((l0.length : Int) < 512) = false := decide_eq_false (by omega)
  have hcv := Kd.C_string (c := c0) Tryz.underlying27 Tryz.underlying5 Tryz.underlying9 (Kd.C_drew (Kd.C_take (m := 8) hr0 (by omega)))
  rw [show (l0.take 8).length = 8 by rw [List.length_take]; omega] at hcv
  have hm1 : ((strOfNums (l0.take 8)).toList == magicL) = true := beq_iff_eq.2 hm
  have hm2 : ((strOfNums (l0.take 8)).toList != magicL) = false := bne_eq_false_iff_eq.2 hm
  have k8 : 8 ≤ c0 := by omega
  have i8 : (8 : Int) ≤ (c0 : Int) := by omega
  unfold magicL at hm1 hm2
  obtain ⟨A24, hcut24, hk24⟩ := cut_of 24 512 l0 A0 c0 w hr0 hc0 (by decide) (by omega)
  obtain ⟨A8, hcut8, hk8⟩ := cut_of 8 16 l0 A0 c0 w hr0 hc0 (by decide) (by omega)
  have hmk := print_make (P := Tryz.prog) 27 5 .u8 1 Tryz.underlying27 byte_info2 (by decide) 488 (by decide)
  have K24 := Lib.hid hk24
  have K8 := Lib.hid hk8
  have L24 := Lib.hid (show ((l0.take 512).drop 24).length = 488 by rw [List.length_drop, List.length_take]; omega)
  have L8 := Lib.hid (show ((l0.take 16).drop 8).length = 8 by rw [List.length_drop, List.length_take]; omega)
  have G24 := Lib.hid (show 488 ≤ c0 - 24 by omega)
  have G8 := Lib.hid (show 8 ≤ c0 - 8 by omega)
  have HR0 := Lib.hid hr0
  have HH := Lib.hid h
  simp only [Int.cast_ofNat_Int] at hcut24 hcut8 hmk
  clear hm hk24 hk8 hr0 h
  go_enter Tryz.func12, Tryz.ntmps12
  go_wp2
  refine start_ (n := 11) (S := fun w' => True) (ds := []) #[false, false, false, false, false, false, false, false, false, false, false] (by kernel_rfl) rfl rfl trivial (fun hHeld => ?_)
  refine with_tabW read3.tab3 read3.bits3 (fun HT_ HW_ => ?_)
  refine pure_ (i := 0) (N := some 9) (v := ?_) (a' := ?_) #[true, false, false, false, false, false, false, false, false, false, false] rfl rfl (any_of HT_.out (by kernel_rfl)) (fun _ _ _ h => h) (Or.inl ⟨by rfl, ?_⟩) ?_ ?_
  rotate_left
  · intro w'
    go_simp
    with_reducible rfl
  rotate_left
  · simp only [Act.put, List.setIfInBounds_toArray, List.set_cons_zero, List.set_cons_succ, i64_w, i32_w]
    rfl
  refine pure_ (i := 1) (N := some 10) (v := ?_) (a' := ?_) #[true, true, false, false, false, false, false, false, false, false, false] rfl rfl (any_of HT_.out (by kernel_rfl)) (fun _ _ _ h => h) (Or.inl ⟨by rfl, ?_⟩) ?_ ?_
  rotate_left
  · intro w'
    go_simp
    with_reducible rfl
  rotate_left
  · simp only [Act.put, List.setIfInBounds_toArray, List.set_cons_zero, List.set_cons_succ, i64_w, i32_w]
    rfl
  refine one_ (i := 2) (N := some 11) #[true, true, true, false, false, false, false, false, false, false, false] rfl rfl (one_of HT_.out (by kernel_rfl)) (by decide) (fun K hK => ?_)
  refine value_ (w1 := ?_) (v := ?_) (by rfl) rfl ?_ ?_
  rotate_left 2
  · go_simp
    constructor
    · rfl
    · rfl
  refine hK.out _ _ trivial (fun hHeld => ?_)
  clear hK K
  refine norm_ (a' := ?_) ?_ ?_
  rotate_left
  · show Act.put _ (some 11) _ = _
    simp only [Act.put, List.setIfInBounds_toArray, List.set_cons_zero, List.set_cons_succ, i64_w, i32_w]
    rfl
  refine pure_ (i := 3) (N := some 12) (v := ?_) (a' := ?_) #[true, true, true, true, false, false, false, false, false, false, false] rfl rfl (any_of HT_.out (by kernel_rfl)) (fun _ _ _ h => h) (Or.inl ⟨by rfl, ?_⟩) ?_ ?_
  rotate_left
  · intro w'
    go_simp
    with_reducible rfl
  rotate_left
  · simp only [Act.put, List.setIfInBounds_toArray, List.set_cons_zero, List.set_cons_succ, i64_w, i32_w]
    rfl
  refine pure_ (i := 4) (N := some 13) (v := ?_) (a' := ?_) #[true, true, true, true, true, false, false, false, false, false, false] rfl rfl (any_of HT_.out (by kernel_rfl)) (fun _ _ _ h => h) (Or.inl ⟨by rfl, ?_⟩) ?_ ?_
  rotate_left
  · intro w'
    go_simp
    with_reducible rfl
  rotate_left
  · simp only [Act.put, List.setIfInBounds_toArray, List.set_cons_zero, List.set_cons_succ, i64_w, i32_w]
    rfl
  refine pure_ (i := 5) (N := some 14) (v := ?_) (a' := ?_) #[true, true, true, true, true, true, false, false, false, false, false] rfl rfl (any_of HT_.out (by kernel_rfl)) (fun _ _ _ h => h) (Or.inl ⟨by rfl, ?_⟩) ?_ ?_
  rotate_left
  · intro w'
    go_simp
    with_reducible rfl
  rotate_left
  · simp only [Act.put, List.setIfInBounds_toArray, List.set_cons_zero, List.set_cons_succ, i64_w, i32_w]
    rfl
  refine pure_ (i := 6) (N := some 15) (v := ?_) (a' := ?_) #[true, true, true, true, true, true, true, false, false, false, false] rfl rfl (any_of HT_.out (by kernel_rfl)) (fun _ _ _ h => h) (Or.inl ⟨by rfl, ?_⟩) ?_ ?_
  rotate_left
  · intro w'
    go_simp
    with_reducible rfl
  rotate_left
  · simp only [Act.put, List.setIfInBounds_toArray, List.set_cons_zero, List.set_cons_succ, i64_w, i32_w]
    rfl
  refine one_ (i := 7) (N := some 16) #[true, true, true, true, true, true, true, true, false, false, false] rfl rfl (one_of HT_.out (by kernel_rfl)) (by decide) (fun K hK => ?_)
  refine value_ (w1 := ?_) (v := ?_) (by rfl) rfl ?_ ?_
  rotate_left 2
  · go_simp
    constructor
    · rfl
    · rfl
  have hO := pw_own_below (own_made w w.heap.size 5 .u8 488 (Nat.le_refl _) (by decide)) (below_drew (Below.refl _ _))
  have hB0 := below_drew (below_alloc (Below.refl w.heap.size w) (.cells (madeCells #[.int .u8 0] 488) 5))
  generalize (w.alloc (.cells (madeCells #[Value.int .u8 0] 488) 5)).drew = wm at hO hB0 ⊢
  have HO := Lib.hid hO
  have HB0 := Lib.hid hB0
  clear hO hB0
  refine hK.out _ _ trivial (fun hHeld => ?_)
  clear hK K
  refine norm_ (a' := ?_) ?_ ?_
  rotate_left
  · show Act.put _ (some 16) _ = _
    simp only [Act.put, List.setIfInBounds_toArray, List.set_cons_zero, List.set_cons_succ, i64_w, i32_w]
    rfl
  refine one_ (i := 8) (N := some 17) #[true, true, true, true, true, true, true, true, true, false, false] rfl rfl (one_of HT_.out (by kernel_rfl)) (by decide) (fun K hK => ?_)
  refine goes_ Tryz.func42 (by kernel_rfl) rfl #[.slice A24 488 (c0 - 24), .slice (some ⟨w.heap.size, 0, none⟩) 488 488] (by rfl) rfl rfl (by (try simp only [List.map_toArray, List.map_cons, List.map_nil]); first | done | rfl) ?_
  with_reducible refine (equal_any A24 488 (c0 - 24) ((l0.take 512).drop 24) (some ⟨w.heap.size, 0, none⟩) 488 488 (List.replicate 488 0) _ L24.out (List.length_replicate ..) (Kd.C_below K24.out HB0.out) G24.out (zeros_read HO.out) (Nat.le_refl _) true HZ.out).mono ?_
  rintro e we ⟨rfl, hbe⟩
  refine ⟨_, rfl, ?_⟩
  have HB1 := Lib.hid (below_then HB0.out HB0.out.size hbe)
  clear hbe HO
  refine hK.out _ _ trivial (fun hHeld => ?_)
  clear hK K
  refine norm_ (a' := ?_) ?_ ?_
  rotate_left
  · show Act.put _ (some 17) _ = _
    simp only [Act.put, List.setIfInBounds_toArray, List.set_cons_zero, List.set_cons_succ, i64_w, i32_w]
    rfl
  refine pure_ (i := 9) (N := some 18) (v := ?_) (a' := ?_) #[true, true, true, true, true, true, true, true, true, true, false] rfl rfl (any_of HT_.out (by kernel_rfl)) (fun _ _ _ h => h) (Or.inl ⟨by rfl, ?_⟩) ?_ ?_
  rotate_left
  · intro w'
    go_simp
    with_reducible rfl
  rotate_left
  · simp only [Act.put, List.setIfInBounds_toArray, List.set_cons_zero, List.set_cons_succ, i64_w, i32_w]
    rfl
  refine pure_ (i := 10) (N := some 19) (v := ?_) (a' := ?_) #[true, true, true, true, true, true, true, true, true, true, true] rfl rfl (any_of HT_.out (by kernel_rfl)) (fun _ _ _ h => h) (Or.inl ⟨by rfl, ?_⟩) ?_ ?_
  rotate_left
  · intro w'
    go_simp
    with_reducible rfl
  rotate_left
  · simp only [Act.put, List.setIfInBounds_toArray, List.set_cons_zero, List.set_cons_succ, i64_w, i32_w]
    rfl
  refine done_ (done_of HT_.out (by kernel_rfl)) ?_

  go_wp2
  refine start_ (n := 6) (S := fun w' => True) (ds := []) #[false, false, false, false, false, false] (by kernel_rfl) rfl rfl trivial (fun hHeld => ?_)
  refine with_tabW read5.tab5 read5.bits5 (fun HT_ HW_ => ?_)
  refine pure_ (i := 0) (N := some 20) (v := ?_) (a' := ?_) #[true, false, false, false, false, false] rfl rfl (any_of HT_.out (by kernel_rfl)) (fun _ _ _ h => h) (Or.inl ⟨by rfl, ?_⟩) ?_ ?_
  rotate_left
  · intro w'
    go_simp
    with_reducible rfl
  rotate_left
  · simp only [Act.put, List.setIfInBounds_toArray, List.set_cons_zero, List.set_cons_succ, i64_w, i32_w]
    rfl
  refine pure_ (i := 1) (N := some 21) (v := ?_) (a' := ?_) #[true, true, false, false, false, false] rfl rfl (any_of HT_.out (by kernel_rfl)) (fun _ _ _ h => h) (Or.inl ⟨by rfl, ?_⟩) ?_ ?_
  rotate_left
  · intro w'
    go_simp
    with_reducible rfl
  rotate_left
  · simp only [Act.put, List.setIfInBounds_toArray, List.set_cons_zero, List.set_cons_succ, i64_w, i32_w]
    rfl
  refine one_ (i := 2) (N := some 22) #[true, true, true, false, false, false] rfl rfl (one_of HT_.out (by kernel_rfl)) (by decide) (fun K hK => ?_)
  refine goes_ Tryz.func44 (by kernel_rfl) rfl #[] (by rfl) rfl rfl (by (try simp only [List.map_toArray, List.map_cons, List.map_nil]); first | done | rfl) ?_
  with_reducible refine (marked_any _).mono ?_
  rintro e wk ⟨rfl, hbk⟩
  refine ⟨_, rfl, ?_⟩
  have HB2 := Lib.hid (below_then (below_drew HB1.out) (below_drew HB1.out).size hbk)
  clear hbk
  refine hK.out _ _ trivial (fun hHeld => ?_)
  clear hK K
  refine norm_ (a' := ?_) ?_ ?_
  rotate_left
  · show Act.put _ (some 22) _ = _
    simp only [Act.put, List.setIfInBounds_toArray, List.set_cons_zero, List.set_cons_succ, i64_w, i32_w]
    rfl
  refine one_ (i := 3) (N := some 23) #[true, true, true, true, false, false] rfl rfl (one_of HT_.out (by kernel_rfl)) (by decide) (fun K hK => ?_)
  refine goes_ Tryz.func43 (by kernel_rfl) rfl #[.slice none 0 0, .int .u64 6763645315271308339] (by rfl) rfl rfl (by (try simp only [List.map_toArray, List.map_cons, List.map_nil]); first | done | rfl) ?_
  with_reducible refine (T.seal_little.calls 10 (fun _ => True) (.slice none 0 0) [] 6763645315271308339 markL w _ HB2.out (Kd.R_nil _ _ _ _ _) little_mark).mono ?_
  rintro e wl ⟨vl, rfl, hRl, hBl, _⟩
  refine ⟨_, rfl, ?_⟩
  have HB3 := Lib.hid hBl
  have hRl2 := Kd.R_mono (ok' := fun _ => True) hRl (fun _ _ => trivial)
  obtain ⟨Al, cl, rfl⟩ := Kd.R_slice hRl2
  have HRl := Lib.hid hRl2
  clear hRl hRl2 hBl
  refine hK.out _ _ trivial (fun hHeld => ?_)
  clear hK K
  refine norm_ (a' := ?_) ?_ ?_
  rotate_left
  · show Act.put _ (some 23) _ = _
    simp only [Act.put, List.setIfInBounds_toArray, List.set_cons_zero, List.set_cons_succ, i64_w, i32_w]
    rfl
  refine one_ (i := 4) (N := some 24) #[true, true, true, true, true, false] rfl rfl (one_of HT_.out (by kernel_rfl)) (by decide) (fun K hK => ?_)
  refine goes_ Tryz.func42 (by kernel_rfl) rfl #[.slice A8 8 (c0 - 8), .slice Al markL.length cl] (by rfl) rfl rfl (by (try simp only [List.map_toArray, List.map_cons, List.map_nil]); first | done | rfl) ?_
  with_reducible refine (equal_any A8 8 (c0 - 8) ((l0.take 16).drop 8) Al markL.length cl markL _ L8.out rfl (Kd.C_below K8.out HB3.out) G8.out (Kd.R_reads' HRl.out).2.2 (Kd.R_reads' HRl.out).2.1 false HK.out).mono ?_
  rintro e we ⟨rfl, hbe⟩
  refine ⟨_, rfl, ?_⟩
  have HB4 := Lib.hid (below_then HB3.out HB3.out.size hbe)
  clear hbe HRl
  refine hK.out _ _ trivial (fun hHeld => ?_)
  clear hK K
  refine norm_ (a' := ?_) ?_ ?_
  rotate_left
  · show Act.put _ (some 24) _ = _
    simp only [Act.put, List.setIfInBounds_toArray, List.set_cons_zero, List.set_cons_succ, i64_w, i32_w]
    rfl
  refine pure_ (i := 5) (N := some 25) (v := ?_) (a' := ?_) #[true, true, true, true, true, true] rfl rfl (any_of HT_.out (by kernel_rfl)) (fun _ _ _ h => h) (Or.inl ⟨by rfl, ?_⟩) ?_ ?_
  rotate_left
  · intro w'
    go_simp
    with_reducible rfl
  rotate_left
  · simp only [Act.put, List.setIfInBounds_toArray, List.set_cons_zero, List.set_cons_succ, i64_w, i32_w]
    rfl
  refine done_ (done_of HT_.out (by kernel_rfl)) ?_

  go_wp2
  go_ret2
  exact ⟨rfl, HB4.out⟩
set_option maxRecDepth 100000 in
set_option maxHeartbeats 4000000 in
theorem read_ok (l0 : List Int) (A0 : Option Addr) (c0 : Nat) (w : World) (hr0 : Kd.C (Kd.int .u8) w A0 l0.length l0) (hc0 : l0.length ≤ c0) (h : ¬ l0.length < 512) (hm : (strOfNums (l0.take 8)).toList = magicL) (hz : sameL ((l0.take 512).drop 24) (List.replicate 488 0) = true) (hk : sameL ((l0.take 16).drop 8) markL = true) :
    Calls Tryz.prog 12 #[.slice A0 l0.length c0] w fun e w' => e = .returned (.tuple #[.int .u64 (readL l0).1, .int .i64 (readL l0).2]) ∧ Below w.heap.size w w' := by
  have e : readL l0 = (numJ l0 8, 0) := (if_neg h).trans ((if_pos hm).trans ((if_pos hz).trans (if_pos hk)))
  rw [e]
  clear e
  have HK := Lib.hid hk
  clear hk
  have HZ := Lib.hid hz
  clear hz
  have t1 : decide ((l0.length : Int) < 512) = false := decide_eq_false (by omega)
  have hcv := Kd.C_string (c := c0) Tryz.underlying27 Tryz.underlying5 Tryz.underlying9 (Kd.C_drew (Kd.C_take (m := 8) hr0 (by omega)))
  rw [show (l0.take 8).length = 8 by rw [List.length_take]; omega] at hcv
  have hm1 : ((strOfNums (l0.take 8)).toList == magicL) = true := beq_iff_eq.2 hm
  have hm2 : ((strOfNums (l0.take 8)).toList != magicL) = false := bne_eq_false_iff_eq.2 hm
  have k8 : 8 ≤ c0 := by omega
  have i8 : (8 : Int) ≤ (c0 : Int) := by omega
  unfold magicL at hm1 hm2
  obtain ⟨A24, hcut24, hk24⟩ := cut_of 24 512 l0 A0 c0 w hr0 hc0 (by decide) (by omega)
  obtain ⟨A8, hcut8, hk8⟩ := cut_of 8 16 l0 A0 c0 w hr0 hc0 (by decide) (by omega)
  have hmk := print_make (P := Tryz.prog) 27 5 .u8 1 Tryz.underlying27 byte_info2 (by decide) 488 (by decide)
  have K24 := Lib.hid hk24
  have K8 := Lib.hid hk8
  have L24 := Lib.hid (show ((l0.take 512).drop 24).length = 488 by rw [List.length_drop, List.length_take]; omega)
  have L8 := Lib.hid (show ((l0.take 16).drop 8).length = 8 by rw [List.length_drop, List.length_take]; omega)
  have G24 := Lib.hid (show 488 ≤ c0 - 24 by omega)
  have G8 := Lib.hid (show 8 ≤ c0 - 8 by omega)
  have HR0 := Lib.hid hr0
  have HH := Lib.hid h
  simp only [Int.cast_ofNat_Int] at hcut24 hcut8 hmk
  clear hm hk24 hk8 hr0 h
  go_enter Tryz.func12, Tryz.ntmps12
  go_wp2
  refine start_ (n := 11) (S := fun w' => True) (ds := []) #[false, false, false, false, false, false, false, false, false, false, false] (by kernel_rfl) rfl rfl trivial (fun hHeld => ?_)
  refine with_tabW read3.tab3 read3.bits3 (fun HT_ HW_ => ?_)
  refine pure_ (i := 0) (N := some 9) (v := ?_) (a' := ?_) #[true, false, false, false, false, false, false, false, false, false, false] rfl rfl (any_of HT_.out (by kernel_rfl)) (fun _ _ _ h => h) (Or.inl ⟨by rfl, ?_⟩) ?_ ?_
  rotate_left
  · intro w'
    go_simp
    with_reducible rfl
  rotate_left
  · simp only [Act.put, List.setIfInBounds_toArray, List.set_cons_zero, List.set_cons_succ, i64_w, i32_w]
    rfl
  refine pure_ (i := 1) (N := some 10) (v := ?_) (a' := ?_) #[true, true, false, false, false, false, false, false, false, false, false] rfl rfl (any_of HT_.out (by kernel_rfl)) (fun _ _ _ h => h) (Or.inl ⟨by rfl, ?_⟩) ?_ ?_
  rotate_left
  · intro w'
    go_simp
    with_reducible rfl
  rotate_left
  · simp only [Act.put, List.setIfInBounds_toArray, List.set_cons_zero, List.set_cons_succ, i64_w, i32_w]
    rfl
  refine one_ (i := 2) (N := some 11) #[true, true, true, false, false, false, false, false, false, false, false] rfl rfl (one_of HT_.out (by kernel_rfl)) (by decide) (fun K hK => ?_)
  refine value_ (w1 := ?_) (v := ?_) (by rfl) rfl ?_ ?_
  rotate_left 2
  · go_simp
    constructor
    · rfl
    · rfl
  refine hK.out _ _ trivial (fun hHeld => ?_)
  clear hK K
  refine norm_ (a' := ?_) ?_ ?_
  rotate_left
  · show Act.put _ (some 11) _ = _
    simp only [Act.put, List.setIfInBounds_toArray, List.set_cons_zero, List.set_cons_succ, i64_w, i32_w]
    rfl
  refine pure_ (i := 3) (N := some 12) (v := ?_) (a' := ?_) #[true, true, true, true, false, false, false, false, false, false, false] rfl rfl (any_of HT_.out (by kernel_rfl)) (fun _ _ _ h => h) (Or.inl ⟨by rfl, ?_⟩) ?_ ?_
  rotate_left
  · intro w'
    go_simp
    with_reducible rfl
  rotate_left
  · simp only [Act.put, List.setIfInBounds_toArray, List.set_cons_zero, List.set_cons_succ, i64_w, i32_w]
    rfl
  refine pure_ (i := 4) (N := some 13) (v := ?_) (a' := ?_) #[true, true, true, true, true, false, false, false, false, false, false] rfl rfl (any_of HT_.out (by kernel_rfl)) (fun _ _ _ h => h) (Or.inl ⟨by rfl, ?_⟩) ?_ ?_
  rotate_left
  · intro w'
    go_simp
    with_reducible rfl
  rotate_left
  · simp only [Act.put, List.setIfInBounds_toArray, List.set_cons_zero, List.set_cons_succ, i64_w, i32_w]
    rfl
  refine pure_ (i := 5) (N := some 14) (v := ?_) (a' := ?_) #[true, true, true, true, true, true, false, false, false, false, false] rfl rfl (any_of HT_.out (by kernel_rfl)) (fun _ _ _ h => h) (Or.inl ⟨by rfl, ?_⟩) ?_ ?_
  rotate_left
  · intro w'
    go_simp
    with_reducible rfl
  rotate_left
  · simp only [Act.put, List.setIfInBounds_toArray, List.set_cons_zero, List.set_cons_succ, i64_w, i32_w]
    rfl
  refine pure_ (i := 6) (N := some 15) (v := ?_) (a' := ?_) #[true, true, true, true, true, true, true, false, false, false, false] rfl rfl (any_of HT_.out (by kernel_rfl)) (fun _ _ _ h => h) (Or.inl ⟨by rfl, ?_⟩) ?_ ?_
  rotate_left
  · intro w'
    go_simp
    with_reducible rfl
  rotate_left
  · simp only [Act.put, List.setIfInBounds_toArray, List.set_cons_zero, List.set_cons_succ, i64_w, i32_w]
    rfl
  refine one_ (i := 7) (N := some 16) #[true, true, true, true, true, true, true, true, false, false, false] rfl rfl (one_of HT_.out (by kernel_rfl)) (by decide) (fun K hK => ?_)
  refine value_ (w1 := ?_) (v := ?_) (by rfl) rfl ?_ ?_
  rotate_left 2
  · go_simp
    constructor
    · rfl
    · rfl
  have hO := pw_own_below (own_made w w.heap.size 5 .u8 488 (Nat.le_refl _) (by decide)) (below_drew (Below.refl _ _))
  have hB0 := below_drew (below_alloc (Below.refl w.heap.size w) (.cells (madeCells #[.int .u8 0] 488) 5))
  generalize (w.alloc (.cells (madeCells #[Value.int .u8 0] 488) 5)).drew = wm at hO hB0 ⊢
  have HO := Lib.hid hO
  have HB0 := Lib.hid hB0
  clear hO hB0
  refine hK.out _ _ trivial (fun hHeld => ?_)
  clear hK K
  refine norm_ (a' := ?_) ?_ ?_
  rotate_left
  · show Act.put _ (some 16) _ = _
    simp only [Act.put, List.setIfInBounds_toArray, List.set_cons_zero, List.set_cons_succ, i64_w, i32_w]
    rfl
  refine one_ (i := 8) (N := some 17) #[true, true, true, true, true, true, true, true, true, false, false] rfl rfl (one_of HT_.out (by kernel_rfl)) (by decide) (fun K hK => ?_)
  refine goes_ Tryz.func42 (by kernel_rfl) rfl #[.slice A24 488 (c0 - 24), .slice (some ⟨w.heap.size, 0, none⟩) 488 488] (by rfl) rfl rfl (by (try simp only [List.map_toArray, List.map_cons, List.map_nil]); first | done | rfl) ?_
  with_reducible refine (equal_any A24 488 (c0 - 24) ((l0.take 512).drop 24) (some ⟨w.heap.size, 0, none⟩) 488 488 (List.replicate 488 0) _ L24.out (List.length_replicate ..) (Kd.C_below K24.out HB0.out) G24.out (zeros_read HO.out) (Nat.le_refl _) true HZ.out).mono ?_
  rintro e we ⟨rfl, hbe⟩
  refine ⟨_, rfl, ?_⟩
  have HB1 := Lib.hid (below_then HB0.out HB0.out.size hbe)
  clear hbe HO
  refine hK.out _ _ trivial (fun hHeld => ?_)
  clear hK K
  refine norm_ (a' := ?_) ?_ ?_
  rotate_left
  · show Act.put _ (some 17) _ = _
    simp only [Act.put, List.setIfInBounds_toArray, List.set_cons_zero, List.set_cons_succ, i64_w, i32_w]
    rfl
  refine pure_ (i := 9) (N := some 18) (v := ?_) (a' := ?_) #[true, true, true, true, true, true, true, true, true, true, false] rfl rfl (any_of HT_.out (by kernel_rfl)) (fun _ _ _ h => h) (Or.inl ⟨by rfl, ?_⟩) ?_ ?_
  rotate_left
  · intro w'
    go_simp
    with_reducible rfl
  rotate_left
  · simp only [Act.put, List.setIfInBounds_toArray, List.set_cons_zero, List.set_cons_succ, i64_w, i32_w]
    rfl
  refine pure_ (i := 10) (N := some 19) (v := ?_) (a' := ?_) #[true, true, true, true, true, true, true, true, true, true, true] rfl rfl (any_of HT_.out (by kernel_rfl)) (fun _ _ _ h => h) (Or.inl ⟨by rfl, ?_⟩) ?_ ?_
  rotate_left
  · intro w'
    go_simp
    with_reducible rfl
  rotate_left
  · simp only [Act.put, List.setIfInBounds_toArray, List.set_cons_zero, List.set_cons_succ, i64_w, i32_w]
    rfl
  refine done_ (done_of HT_.out (by kernel_rfl)) ?_

  go_wp2
  refine start_ (n := 6) (S := fun w' => True) (ds := []) #[false, false, false, false, false, false] (by kernel_rfl) rfl rfl trivial (fun hHeld => ?_)
  refine with_tabW read5.tab5 read5.bits5 (fun HT_ HW_ => ?_)
  refine pure_ (i := 0) (N := some 20) (v := ?_) (a' := ?_) #[true, false, false, false, false, false] rfl rfl (any_of HT_.out (by kernel_rfl)) (fun _ _ _ h => h) (Or.inl ⟨by rfl, ?_⟩) ?_ ?_
  rotate_left
  · intro w'
    go_simp
    with_reducible rfl
  rotate_left
  · simp only [Act.put, List.setIfInBounds_toArray, List.set_cons_zero, List.set_cons_succ, i64_w, i32_w]
    rfl
  refine pure_ (i := 1) (N := some 21) (v := ?_) (a' := ?_) #[true, true, false, false, false, false] rfl rfl (any_of HT_.out (by kernel_rfl)) (fun _ _ _ h => h) (Or.inl ⟨by rfl, ?_⟩) ?_ ?_
  rotate_left
  · intro w'
    go_simp
    with_reducible rfl
  rotate_left
  · simp only [Act.put, List.setIfInBounds_toArray, List.set_cons_zero, List.set_cons_succ, i64_w, i32_w]
    rfl
  refine one_ (i := 2) (N := some 22) #[true, true, true, false, false, false] rfl rfl (one_of HT_.out (by kernel_rfl)) (by decide) (fun K hK => ?_)
  refine goes_ Tryz.func44 (by kernel_rfl) rfl #[] (by rfl) rfl rfl (by (try simp only [List.map_toArray, List.map_cons, List.map_nil]); first | done | rfl) ?_
  with_reducible refine (marked_any _).mono ?_
  rintro e wk ⟨rfl, hbk⟩
  refine ⟨_, rfl, ?_⟩
  have HB2 := Lib.hid (below_then (below_drew HB1.out) (below_drew HB1.out).size hbk)
  clear hbk
  refine hK.out _ _ trivial (fun hHeld => ?_)
  clear hK K
  refine norm_ (a' := ?_) ?_ ?_
  rotate_left
  · show Act.put _ (some 22) _ = _
    simp only [Act.put, List.setIfInBounds_toArray, List.set_cons_zero, List.set_cons_succ, i64_w, i32_w]
    rfl
  refine one_ (i := 3) (N := some 23) #[true, true, true, true, false, false] rfl rfl (one_of HT_.out (by kernel_rfl)) (by decide) (fun K hK => ?_)
  refine goes_ Tryz.func43 (by kernel_rfl) rfl #[.slice none 0 0, .int .u64 6763645315271308339] (by rfl) rfl rfl (by (try simp only [List.map_toArray, List.map_cons, List.map_nil]); first | done | rfl) ?_
  with_reducible refine (T.seal_little.calls 10 (fun _ => True) (.slice none 0 0) [] 6763645315271308339 markL w _ HB2.out (Kd.R_nil _ _ _ _ _) little_mark).mono ?_
  rintro e wl ⟨vl, rfl, hRl, hBl, _⟩
  refine ⟨_, rfl, ?_⟩
  have HB3 := Lib.hid hBl
  have hRl2 := Kd.R_mono (ok' := fun _ => True) hRl (fun _ _ => trivial)
  obtain ⟨Al, cl, rfl⟩ := Kd.R_slice hRl2
  have HRl := Lib.hid hRl2
  clear hRl hRl2 hBl
  refine hK.out _ _ trivial (fun hHeld => ?_)
  clear hK K
  refine norm_ (a' := ?_) ?_ ?_
  rotate_left
  · show Act.put _ (some 23) _ = _
    simp only [Act.put, List.setIfInBounds_toArray, List.set_cons_zero, List.set_cons_succ, i64_w, i32_w]
    rfl
  refine one_ (i := 4) (N := some 24) #[true, true, true, true, true, false] rfl rfl (one_of HT_.out (by kernel_rfl)) (by decide) (fun K hK => ?_)
  refine goes_ Tryz.func42 (by kernel_rfl) rfl #[.slice A8 8 (c0 - 8), .slice Al markL.length cl] (by rfl) rfl rfl (by (try simp only [List.map_toArray, List.map_cons, List.map_nil]); first | done | rfl) ?_
  with_reducible refine (equal_any A8 8 (c0 - 8) ((l0.take 16).drop 8) Al markL.length cl markL _ L8.out rfl (Kd.C_below K8.out HB3.out) G8.out (Kd.R_reads' HRl.out).2.2 (Kd.R_reads' HRl.out).2.1 true HK.out).mono ?_
  rintro e we ⟨rfl, hbe⟩
  refine ⟨_, rfl, ?_⟩
  have HB4 := Lib.hid (below_then HB3.out HB3.out.size hbe)
  clear hbe HRl
  refine hK.out _ _ trivial (fun hHeld => ?_)
  clear hK K
  refine norm_ (a' := ?_) ?_ ?_
  rotate_left
  · show Act.put _ (some 24) _ = _
    simp only [Act.put, List.setIfInBounds_toArray, List.set_cons_zero, List.set_cons_succ, i64_w, i32_w]
    rfl
  refine pure_ (i := 5) (N := some 25) (v := ?_) (a' := ?_) #[true, true, true, true, true, true] rfl rfl (any_of HT_.out (by kernel_rfl)) (fun _ _ _ h => h) (Or.inl ⟨by rfl, ?_⟩) ?_ ?_
  rotate_left
  · intro w'
    go_simp
    with_reducible rfl
  rotate_left
  · simp only [Act.put, List.setIfInBounds_toArray, List.set_cons_zero, List.set_cons_succ, i64_w, i32_w]
    rfl
  refine done_ (done_of HT_.out (by kernel_rfl)) ?_

  go_wp2
  have HR4 := Lib.hid (Kd.reads_of_C (enc := Value.int .u8) (d := (0 : Int)) (h1 := fun _ => rfl) (Kd.C_below HR0.out HB4.out))
  go_loop [4, 5] (fun n i => ∃ j : Nat, j ≤ 8 ∧ i = .int .i64 (23 - (j : Int)) ∧ n = .int .u64 (numJ l0 j)) (fun _ i => ((RowKit.intOf i) - 15).toNat)
  case atStart => exact ⟨0, by omega, rfl, rfl⟩
  case round =>
    obtain ⟨j, hj, rfl, rfl⟩ := hrel
    by_cases hlt : j < 8
    · as_aux_lemma =>
      have hN := Lib.hid (show numJ l0 (j + 1) = Go.bits .or .u64 (IntKind.u64.wrap (numJ l0 j * 256)) (IntKind.u64.wrap (rd l0 (23 - (j : Int)))) from rfl)
      have h512 := HH.out
      have b0 : (0 : Int) ≤ 23 - (j : Int) := by omega
      have b1 : 23 - (j : Int) < (l0.length : Int) := by omega
      have b2 : (16 : Int) ≤ 23 - (j : Int) := by omega
      obtain ⟨ad, rfl, hcell⟩ := ReadsInt.at_ HR4.out (23 - (j : Int)) b0 b1
      rw [show (23 - (j : Int)).toNat = 23 - j by omega] at hcell
      obtain ⟨y, hy⟩ : ∃ y, y = numJ l0 j := ⟨_, rfl⟩
      have HY := Lib.hid hy
      rw [← hy]
      clear hy
      go_wp2
      go_round
      case rel => exact ⟨j + 1, by omega, by congr 1; omega, by rw [hN.out, ← HY.out]⟩
      case measure => simp [RowKit.intOf]; omega
    · as_aux_lemma =>
      obtain rfl : j = 8 := by omega
      go_wp2
      go_ret2
      exact ⟨rfl, HB4.out⟩
theorem read_any (l0 : List Int) (A0 : Option Addr) (c0 : Nat) (w : World) (hr0 : Kd.C (Kd.int .u8) w A0 l0.length l0) (hc0 : l0.length ≤ c0) :
    Calls Tryz.prog 12 #[.slice A0 l0.length c0] w fun e w' => e = .returned (.tuple #[.int .u64 (readL l0).1, .int .i64 (readL l0).2]) ∧ Below w.heap.size w w' := by
  by_cases h : l0.length < 512
  · exact read_short l0 A0 c0 w h
  by_cases hm : (strOfNums (l0.take 8)).toList = magicL
  · cases hz : sameL ((l0.take 512).drop 24) (List.replicate 488 0) with
    | false => exact read_zeros l0 A0 c0 w hr0 hc0 h hm hz
    | true =>
      cases hk : sameL ((l0.take 16).drop 8) markL with
      | false => exact read_mark l0 A0 c0 w hr0 hc0 h hm hz hk
      | true => exact read_ok l0 A0 c0 w hr0 hc0 h hm hz hk
  · exact read_word l0 A0 c0 w hr0 hc0 h hm
def seal_Read.f (l : List Int) : Option (Int × Int) := some (readL l)
theorem seal_Read.calls (A0 : Option Addr) (c0 : Nat) (l0 : List Int) (r1 r2 : Int) (w : World) (hr0 : Kd.C (Kd.int .u8) w A0 l0.length l0) (hc0 : l0.length ≤ c0) (h : seal_Read.f l0 = some (r1, r2)) :
    Calls Tryz.prog 12 #[.slice A0 l0.length c0] w fun e w' => e = .returned (.tuple #[.int .u64 r1, .int .i64 r2]) ∧ Below w.heap.size w w' := by
  have := read_any l0 A0 c0 w hr0 hc0
  rw [Option.some.inj h] at this
  exact this
end Go.Proofs.YtpmebnkjcekmmaaGreatDoor
