/- conv.digits and the conversions of texts to numbers, for texts of at most 2^48 bytes, where the world is laid. -/
import Derived.Test.YthfhkfebkpdkcaaGreatDoorUUtf
import Derived.Test.YthfhkfebkpdkcaaGreatDoorUFmt
import Derived.Test.YthfhkfebkpdkcaaGreatDoorUCabc
import Derived.WalkLawsBesides
import Derived.BigQuiet
import Derived.Lib.ParseIntBCases
import Derived.Lib.SlTrimSet
import Derived.Deep.QuietTactic
namespace Go.Proofs.YthfhkfebkpdkcaaGreatDoor
open Go.RowKit Go.Lib Go.Shelf

def digitSet : List UInt8 := [48, 49, 50, 51, 52, 53, 54, 55, 56, 57]
def isDig (c : UInt8) : Bool := decide (48 ≤ c.toNat) && decide (c.toNat ≤ 57)
/-- One digit or more, and nothing else. -/
def isDigits (l : List UInt8) : Bool := !l.isEmpty && l.all isDig
theorem digitSet_is : ∀ c : UInt8, digitSet.contains c = isDig c := by
  intro c
  have h : ∀ n : Fin 256, digitSet.contains (UInt8.ofNat n.val) = isDig (UInt8.ofNat n.val) := by decide +kernel
  have := h ⟨c.toNat, UInt8.toNat_lt c⟩
  simpa using this
theorem dropWhile_nil {p : UInt8 → Bool} : ∀ l : List UInt8, l.dropWhile p = [] ↔ ∀ c ∈ l, p c = true
  | [] => by simp
  | a :: l => by
    by_cases h : p a = true
    · rw [List.dropWhile_cons_of_pos h, dropWhile_nil l]
      simp [h]
    · rw [List.dropWhile_cons_of_neg h]
      simp [h]
theorem trim_nil (l cs : List UInt8) : Lib.trimS l cs = [] ↔ ∀ c ∈ l, cs.contains c = true := by
  unfold Lib.trimS Lib.trimLeftS Lib.trimRightS
  constructor
  · intro h
    rw [dropWhile_nil] at h
    by_cases e : (l.reverse.dropWhile (cs.contains ·)) = []
    · intro c hc
      exact (dropWhile_nil _).1 e c (by simpa using hc)
    · exfalso
      have h1 := List.head_dropWhile_not (cs.contains ·) e
      have := h (List.head _ e) (by simp)
      rw [h1] at this
      cases this
  · intro h
    have e : (l.reverse.dropWhile (cs.contains ·)) = [] := (dropWhile_nil _).2 fun c hc => h c (by simpa using hc)
    rw [e]
    rfl
theorem toList_mk (l : List UInt8) : (⟨l.toArray⟩ : ByteArray).toList = l := by rw [Lib.toList_data]
theorem digits_some_is (s : ByteArray) (h : 0 < s.size) : ((⟨(Lib.trimS s.data.toList digitSet).toArray⟩ : ByteArray).toList == ([] : List UInt8)) = isDigits s.data.toList := by
  rw [toList_mk]
  have hne : s.data.toList ≠ [] := fun e => by have := Lib.size_eq s; rw [e] at this; simp only [List.length_nil] at this; omega
  have he : s.data.toList.isEmpty = false := by cases hh : s.data.toList with
    | nil => exact absurd hh hne
    | cons => rfl
  unfold isDigits
  rw [he]
  simp only [Bool.not_false, Bool.true_and]
  rw [Bool.eq_iff_iff, beq_iff_eq, trim_nil, List.all_eq_true]
  simp only [digitSet_is]
set_option maxRecDepth 100000 in
set_option maxHeartbeats 1000000 in
theorem digits_nil (s : ByteArray) (w : World) (h : s.size = 0) : Calls Tryz.prog 76 #[.string s] w fun e w' => e = .returned (.bool false) ∧ Below w.heap.size w w' := by
  have e0 := nil_yes s h
  have e1 : (s.toList != ([] : List UInt8)) = false := by simp only [bne, e0, Bool.not_true]
  go_enter Tryz.func76, Tryz.ntmps76
  go_wp2
  go_ret
  exact ⟨rfl, Below.refl _ _⟩
theorem digits_some (s : ByteArray) (w : World) (h : 0 < s.size) (hs : s.size ≤ 9223372036854775807) : Calls Tryz.prog 76 #[.string s] w fun e w' => e = .returned (.bool (isDigits s.data.toList)) ∧ Below w.heap.size w w' := by
  have e0 := nil_no s h
  have e1 : (s.toList != ([] : List UInt8)) = true := by simp only [bne, e0, Bool.not_false]
  have hcon := Any.strings_Trim_laid Tryz.lays160 (by kernel_rfl) s ⟨#[48, 49, 50, 51, 52, 53, 54, 55, 56, 57]⟩ w hs (by decide) (ascii_of_all (by decide))
  change Calls Tryz.prog 97 _ _ (fun e w' => e = .returned (.string ⟨(Lib.trimS s.data.toList digitSet).toArray⟩) ∧ Below w.heap.size w w') at hcon
  have e2 := digits_some_is s h
  generalize (⟨(Lib.trimS s.data.toList digitSet).toArray⟩ : ByteArray) = r at hcon e2
  generalize isDigits s.data.toList = b at e2 ⊢
  have HC := Lib.hid hcon
  clear hcon
  go_enter Tryz.func76, Tryz.ntmps76
  go_wp2_with (go_at_call 97; refine HC.out.mono ?_; rintro e w' ⟨rfl, hB⟩)
  go_ret
  exact ⟨rfl, hB⟩
theorem digits_any (s : ByteArray) (w : World) (hs : s.size ≤ 9223372036854775807) : Calls Tryz.prog 76 #[.string s] w fun e w' => e = .returned (.bool (isDigits s.data.toList)) ∧ Below w.heap.size w w' := by
  by_cases h : s.size = 0
  · have e : isDigits s.data.toList = false := by
      have : s.data.toList = [] := List.eq_nil_of_length_eq_zero (by rw [← Lib.size_eq]; exact h)
      rw [this]
      rfl
    rw [e]
    exact digits_nil s w h
  · exact digits_some s w (by omega) hs

abbrev valZ : Array Value := #[.int .i64 0, .int .u64 0, .string ⟨#[]⟩]
set_option maxRecDepth 100000 in
theorem failed_any (x : Int) (w : World) : Calls Tryz.prog 28 #[.int .i64 x] w fun e w' => e = .returned (.tuple #[.agg valZ, .int .i64 x]) ∧ Below w.heap.size w w' := by
  go_enter Tryz.func28, Tryz.ntmps28
  go_wp2
  exact bodyPost_ret (v := .tuple #[.agg valZ, .int .i64 x]) (by simp [results, Tryz.results28, go_sem]) rfl ⟨rfl, (Below.refl _ _).alloc (Nat.le_refl _) _⟩
set_option maxRecDepth 100000 in
theorem number_any (k n : Int) (w : World) : Calls Tryz.prog 67 #[.int .i64 k, .int .u64 n] w fun e w' => e = .returned (.tuple #[.agg #[.int .i64 k, .int .u64 n, .string ⟨#[]⟩], .int .i64 0]) ∧ Below w.heap.size w w' := by
  go_enter Tryz.func67, Tryz.ntmps67
  go_wp2
  exact bodyPost_ret (v := .tuple #[.agg #[.int .i64 k, .int .u64 n, .string ⟨#[]⟩], .int .i64 0]) (by simp [results, Tryz.results67, go_sem]) rfl ⟨rfl, (Below.refl _ _).alloc (Nat.le_refl _) _⟩

/-- The result's block behind the callees, and a store into it. -/
structure ResBlk (w w1 : World) : Prop where
  at_ : w1.heap[w.heap.size + 1]? = some (.cells valZ 27 (0, 0))
  below : Below w.heap.size w w1
theorem resBlk_start (w : World) (o : Obj) : ResBlk w ((w.alloc o).alloc (.cells valZ 27)) := by
  refine ⟨?_, ((Below.refl _ _).alloc (Nat.le_refl _) _).alloc (by simp) _⟩
  have := heap_last (w.alloc o) (.cells valZ 27)
  rw [World.size_alloc] at this
  exact this
theorem resBlk_below {w w1 w2 : World} (h : ResBlk w w1) (hb : Below w1.heap.size w1 w2) : ResBlk w w2 :=
  ⟨(hb.block _ (heap_lt h.at_)).trans h.at_, h.below.trans (hb.mono h.below.size)⟩
/-- The argument's box behind the callees. -/
theorem box_start (w : World) (o o2 : Obj) : ((w.alloc o).alloc o2).heap[w.heap.size]? = some o := by
  rw [Below.heap_alloc _ _ _ (by simp)]
  exact heap_last w o
theorem parse_below {w w' : World} {s : ByteArray} (h : w' = w ∨ w' = Lib.bytesWorld w 5 s) : Below w.heap.size w w' := by
  rcases h with rfl | rfl
  · exact Below.refl _ _
  · exact below_bytes (Below.refl _ _) _ _
theorem parse_below2 {w w' : World} (h : w' = w ∨ ∃ s, w' = Lib.bytesWorld w 5 s) : Below w.heap.size w w' := by
  rcases h with rfl | ⟨s, rfl⟩
  · exact Below.refl _ _
  · exact below_bytes (Below.refl _ _) _ _

set_option maxRecDepth 100000 in
set_option maxHeartbeats 2000000 in
theorem textUint_no (k n : Int) (s : ByteArray) (w : World) (hs : s.size ≤ 281474976710656) (h : isDigits s.data.toList = false) : Calls Tryz.prog 75 #[.agg #[.int .i64 k, .int .u64 n, .string s]] w fun e w' => e = .returned (.tuple #[.agg valZ, .int .i64 61]) ∧ Below w.heap.size w w' := by
  have R0 := resBlk_start w (.cells #[.int .i64 k, .int .u64 n, .string s] 27)
  have C0 : ∀ j v, (#[.int .i64 k, .int .u64 n, .string s] : Array Value)[j]? = some v → ((w.alloc (.cells #[.int .i64 k, .int .u64 n, .string s] 27)).alloc (.cells valZ 27)).cell? ⟨w.heap.size, j, none⟩ = some v := fun j v hv => cell_of_heap (box_start w _ _) j v hv
  have HC0 := Lib.hid C0
  have c0 := HC0.out 2 _ rfl
  clear C0
  go_enter Tryz.func75, Tryz.ntmps75
  go_wp2_with (first
    | (go_at_call 76; refine (digits_any s _ (by omega)).mono ?_; rintro e w1 ⟨rfl, hb1⟩; have R1 := resBlk_below R0 hb1)
    | (go_at_call 28; refine (failed_any _ _).mono ?_; rintro e w2 ⟨rfl, hb2⟩; have R2 := resBlk_below R1 hb2)
    | (refine wpList_store_row rfl 27 (.tmp 2) (.tmp 11) rfl (w.heap.size + 1) valZ rfl rfl 27 valZ R2.at_ (by kernel_rfl) rfl (by kernel_rfl) ?_)
    | go_in)
  exact bodyPost_ret (results_row_tmp rfl _ _ (w.heap.size + 1) 27 valZ (0, 0) _ rfl (setRow_heap _ _ _ _ _ _ R2.at_) Tryz.underlying27 rfl (by kernel_rfl)) rfl ⟨rfl, below_setRow R2.below (by omega) _⟩

set_option maxRecDepth 100000 in
set_option maxHeartbeats 2000000 in
theorem textUint_range (k n : Int) (s : ByteArray) (w : World) (hL : Laid w) (hs : s.size ≤ 281474976710656) (h : isDigits s.data.toList = true) (hp : Lib.parseUintB 64 s.data.toList = Lib.NumEnd.range) : Calls Tryz.prog 75 #[.agg #[.int .i64 k, .int .u64 n, .string s]] w fun e w' => e = .returned (.tuple #[.agg valZ, .int .i64 60]) ∧ Below w.heap.size w w' := by
  have R0 := resBlk_start w (.cells #[.int .i64 k, .int .u64 n, .string s] 27)
  have C0 : ∀ j v, (#[.int .i64 k, .int .u64 n, .string s] : Array Value)[j]? = some v → ((w.alloc (.cells #[.int .i64 k, .int .u64 n, .string s] 27)).alloc (.cells valZ 27)).cell? ⟨w.heap.size, j, none⟩ = some v := fun j v hv => cell_of_heap (box_start w _ _) j v hv
  have HC0 := Lib.hid C0
  have c0 := HC0.out 2 _ rfl
  clear C0
  have HP := Lib.hid hp
  have HL := Lib.hid hL
  clear hp hL
  go_enter Tryz.func75, Tryz.ntmps75
  go_wp2_with (first
    | (go_at_call 76; refine (digits_any s _ (by omega)).mono ?_; rintro e w1 ⟨rfl, hb1⟩; have R1 := resBlk_below R0 hb1; have c2 : w1.cell? ⟨w.heap.size, 2, none⟩ = some (.string s) := (hb1.cell (p := ⟨w.heap.size, 2, none⟩) (by simp <;> omega)).trans (HC0.out 2 _ rfl); obtain ⟨tp, pv, hr⟩ := (laid_below HL.out R1.below).rng; have HR := Lib.hid hr; clear hr)
    | (go_at_call 77; refine (Tryz.strconv_ParseUint_10_at64_range_var s (by omega) HP.out tp pv _ HR.out).mono ?_; rintro e w2 ⟨N, rfl, _, _, hb2⟩; have R2 := resBlk_below R1 hb2)
    | (go_at_call 28; refine (failed_any _ _).mono ?_; rintro e w3 ⟨rfl, hb3⟩; have R3 := resBlk_below R2 hb3)
    | (refine wpList_store_row rfl 27 (.tmp 2) (.tmp 22) rfl (w.heap.size + 1) valZ rfl rfl 27 valZ R3.at_ (by kernel_rfl) rfl (by kernel_rfl) ?_)
    | go_in)
  exact bodyPost_ret (results_row_tmp rfl _ _ (w.heap.size + 1) 27 valZ (0, 0) _ rfl (setRow_heap _ _ _ _ _ _ R3.at_) Tryz.underlying27 rfl (by kernel_rfl)) rfl ⟨rfl, below_setRow R3.below (by omega) _⟩

set_option maxRecDepth 100000 in
set_option maxHeartbeats 2000000 in
theorem textUint_ok (k n : Int) (s : ByteArray) (w : World) (u : Nat) (hs : s.size ≤ 281474976710656) (h : isDigits s.data.toList = true) (hp : Lib.parseUintB 64 s.data.toList = Lib.NumEnd.ok u) : Calls Tryz.prog 75 #[.agg #[.int .i64 k, .int .u64 n, .string s]] w fun e w' => e = .returned (.tuple #[.agg #[.int .i64 1, .int .u64 u, .string ⟨#[]⟩], .int .i64 0]) ∧ Below w.heap.size w w' := by
  have R0 := resBlk_start w (.cells #[.int .i64 k, .int .u64 n, .string s] 27)
  have C0 : ∀ j v, (#[.int .i64 k, .int .u64 n, .string s] : Array Value)[j]? = some v → ((w.alloc (.cells #[.int .i64 k, .int .u64 n, .string s] 27)).alloc (.cells valZ 27)).cell? ⟨w.heap.size, j, none⟩ = some v := fun j v hv => cell_of_heap (box_start w _ _) j v hv
  have HC0 := Lib.hid C0
  have c0 := HC0.out 2 _ rfl
  clear C0
  have HP := Lib.hid hp
  clear hp
  go_enter Tryz.func75, Tryz.ntmps75
  go_wp2_with (first
    | (go_at_call 76; refine (digits_any s _ (by omega)).mono ?_; rintro e w1 ⟨rfl, hb1⟩; have R1 := resBlk_below R0 hb1; have c2 : w1.cell? ⟨w.heap.size, 2, none⟩ = some (.string s) := (hb1.cell (p := ⟨w.heap.size, 2, none⟩) (by simp <;> omega)).trans (HC0.out 2 _ rfl))
    | (go_at_call 77; refine (Tryz.strconv_ParseUint_10_at64_ok s (by omega) u HP.out _).mono ?_; rintro e w2 ⟨rfl, hw2⟩; have hb2 := parse_below hw2; clear hw2; have R2 := resBlk_below R1 hb2)
    | (go_at_call 67; refine (number_any _ _ _).mono ?_; rintro e w3 ⟨rfl, hb3⟩; have R3 := resBlk_below R2 hb3)
    | (refine wpList_store_row rfl 27 (.tmp 2) (.tmp 27) rfl (w.heap.size + 1) #[.int .i64 1, .int .u64 u, .string ⟨#[]⟩] rfl rfl 27 valZ R3.at_ (by kernel_rfl) rfl (by kernel_rfl) ?_)
    | go_in)
  exact bodyPost_ret (results_row_tmp rfl _ _ (w.heap.size + 1) 27 #[.int .i64 1, .int .u64 u, .string ⟨#[]⟩] (0, 0) _ rfl (setRow_heap _ _ _ _ _ _ R3.at_) Tryz.underlying27 rfl (by kernel_rfl)) rfl ⟨rfl, below_setRow R3.below (by omega) _⟩

def trimMinus (l : List UInt8) : List UInt8 := Lib.trimPrefix l [45]
theorem trimMinus_le (l : List UInt8) : (trimMinus l).length ≤ l.length := by
  unfold trimMinus Lib.trimPrefix
  split
  · simp
  · exact Nat.le_refl _
theorem trim_size (s : ByteArray) (hs : s.size ≤ 281474976710656) : (⟨(trimMinus s.data.toList).toArray⟩ : ByteArray).size ≤ 281474976710656 := by
  have h1 := trimMinus_le s.data.toList
  have h2 := Lib.size_eq s
  have h3 : (⟨(trimMinus s.data.toList).toArray⟩ : ByteArray).size = (trimMinus s.data.toList).length := by rw [Lib.size_eq]
  omega
theorem trimP (s : ByteArray) (w : World) : Calls Tryz.prog 79 #[.string s, .string ⟨#[45]⟩] w fun e w' => e = .returned (.string ⟨(trimMinus s.data.toList).toArray⟩) ∧ w = w' := by
  refine (Tryz.strings_TrimPrefix s ⟨#[45]⟩ w).mono ?_
  rintro e w' ⟨rfl, rfl⟩
  exact ⟨rfl, rfl⟩

set_option maxRecDepth 100000 in
set_option maxHeartbeats 2000000 in
theorem textInt_no (k n : Int) (s : ByteArray) (w : World) (hs : s.size ≤ 281474976710656) (h : isDigits (trimMinus s.data.toList) = false) : Calls Tryz.prog 78 #[.agg #[.int .i64 k, .int .u64 n, .string s]] w fun e w' => e = .returned (.tuple #[.agg valZ, .int .i64 61]) ∧ Below w.heap.size w w' := by
  have R0 := resBlk_start w (.cells #[.int .i64 k, .int .u64 n, .string s] 27)
  have C0 : ∀ j v, (#[.int .i64 k, .int .u64 n, .string s] : Array Value)[j]? = some v → ((w.alloc (.cells #[.int .i64 k, .int .u64 n, .string s] 27)).alloc (.cells valZ 27)).cell? ⟨w.heap.size, j, none⟩ = some v := fun j v hv => cell_of_heap (box_start w _ _) j v hv
  have HC0 := Lib.hid C0
  have c0 := HC0.out 2 _ rfl
  clear C0
  have TP := fun w => trimP s w
  have tz := trim_size s hs
  have hh : isDigits (⟨(trimMinus s.data.toList).toArray⟩ : ByteArray).data.toList = false := h
  clear h
  generalize (⟨(trimMinus s.data.toList).toArray⟩ : ByteArray) = r at TP tz hh
  have TPH := Lib.hid TP
  clear TP
  go_enter Tryz.func78, Tryz.ntmps78
  go_wp2_with (first
    | (go_at_call 79; refine (TPH.out _).mono ?_; rintro e w' ⟨rfl, rfl⟩)
    | (go_at_call 76; refine (digits_any r _ (by omega)).mono ?_; rintro e w1 ⟨rfl, hb1⟩; have R1 := resBlk_below R0 hb1)
    | (go_at_call 28; refine (failed_any _ _).mono ?_; rintro e w2 ⟨rfl, hb2⟩; have R2 := resBlk_below R1 hb2)
    | (refine wpList_store_row rfl 27 (.tmp 2) (.tmp 12) rfl (w.heap.size + 1) valZ rfl rfl 27 valZ R2.at_ (by kernel_rfl) rfl (by kernel_rfl) ?_)
    | go_in)
  exact bodyPost_ret (results_row_tmp rfl _ _ (w.heap.size + 1) 27 valZ (0, 0) _ rfl (setRow_heap _ _ _ _ _ _ R2.at_) Tryz.underlying27 rfl (by kernel_rfl)) rfl ⟨rfl, below_setRow R2.below (by omega) _⟩

set_option maxRecDepth 100000 in
set_option maxHeartbeats 2000000 in
theorem textInt_range (k n : Int) (s : ByteArray) (w : World) (hL : Laid w) (hs : s.size ≤ 281474976710656) (h : isDigits (trimMinus s.data.toList) = true) (hp : Lib.parseIntB 64 s.data.toList = Lib.NumEnd.range) : Calls Tryz.prog 78 #[.agg #[.int .i64 k, .int .u64 n, .string s]] w fun e w' => e = .returned (.tuple #[.agg valZ, .int .i64 60]) ∧ Below w.heap.size w w' := by
  have R0 := resBlk_start w (.cells #[.int .i64 k, .int .u64 n, .string s] 27)
  have C0 : ∀ j v, (#[.int .i64 k, .int .u64 n, .string s] : Array Value)[j]? = some v → ((w.alloc (.cells #[.int .i64 k, .int .u64 n, .string s] 27)).alloc (.cells valZ 27)).cell? ⟨w.heap.size, j, none⟩ = some v := fun j v hv => cell_of_heap (box_start w _ _) j v hv
  have HC0 := Lib.hid C0
  have c0 := HC0.out 2 _ rfl
  clear C0
  have HP := Lib.hid hp
  have HL := Lib.hid hL
  clear hp hL
  have TP := fun w => trimP s w
  have tz := trim_size s hs
  have hh : isDigits (⟨(trimMinus s.data.toList).toArray⟩ : ByteArray).data.toList = true := h
  clear h
  generalize (⟨(trimMinus s.data.toList).toArray⟩ : ByteArray) = r at TP tz hh
  have TPH := Lib.hid TP
  clear TP
  go_enter Tryz.func78, Tryz.ntmps78
  go_wp2_with (first
    | (go_at_call 79; refine (TPH.out _).mono ?_; rintro e w' ⟨rfl, rfl⟩)
    | (go_at_call 76; refine (digits_any r _ (by omega)).mono ?_; rintro e w1 ⟨rfl, hb1⟩; have R1 := resBlk_below R0 hb1; have c2 : w1.cell? ⟨w.heap.size, 2, none⟩ = some (.string s) := (hb1.cell (p := ⟨w.heap.size, 2, none⟩) (by simp <;> omega)).trans (HC0.out 2 _ rfl); obtain ⟨tp, pv, hr⟩ := (laid_below HL.out R1.below).rng; have HR := Lib.hid hr; clear hr)
    | (go_at_call 80; refine (Tryz.strconv_ParseInt_10_at64_range_var s (by omega) HP.out tp pv _ HR.out).mono ?_; rintro e w2 ⟨N, rfl, _, _, hb2⟩; have R2 := resBlk_below R1 hb2)
    | (go_at_call 28; refine (failed_any _ _).mono ?_; rintro e w3 ⟨rfl, hb3⟩; have R3 := resBlk_below R2 hb3)
    | (refine wpList_store_row rfl 27 (.tmp 2) (.tmp 23) rfl (w.heap.size + 1) valZ rfl rfl 27 valZ R3.at_ (by kernel_rfl) rfl (by kernel_rfl) ?_)
    | go_in)
  exact bodyPost_ret (results_row_tmp rfl _ _ (w.heap.size + 1) 27 valZ (0, 0) _ rfl (setRow_heap _ _ _ _ _ _ R3.at_) Tryz.underlying27 rfl (by kernel_rfl)) rfl ⟨rfl, below_setRow R3.below (by omega) _⟩

set_option maxRecDepth 100000 in
set_option maxHeartbeats 2000000 in
theorem textInt_ok (k n : Int) (s : ByteArray) (w : World) (v : Int) (hs : s.size ≤ 281474976710656) (h : isDigits (trimMinus s.data.toList) = true) (hp : Lib.parseIntB 64 s.data.toList = Lib.NumEnd.ok v) : Calls Tryz.prog 78 #[.agg #[.int .i64 k, .int .u64 n, .string s]] w fun e w' => e = .returned (.tuple #[.agg #[.int .i64 2, .int .u64 (IntKind.u64.wrap v), .string ⟨#[]⟩], .int .i64 0]) ∧ Below w.heap.size w w' := by
  have R0 := resBlk_start w (.cells #[.int .i64 k, .int .u64 n, .string s] 27)
  have C0 : ∀ j v, (#[.int .i64 k, .int .u64 n, .string s] : Array Value)[j]? = some v → ((w.alloc (.cells #[.int .i64 k, .int .u64 n, .string s] 27)).alloc (.cells valZ 27)).cell? ⟨w.heap.size, j, none⟩ = some v := fun j v hv => cell_of_heap (box_start w _ _) j v hv
  have HC0 := Lib.hid C0
  have c0 := HC0.out 2 _ rfl
  clear C0
  have HP := Lib.hid hp
  clear hp
  have TP := fun w => trimP s w
  have tz := trim_size s hs
  have hh : isDigits (⟨(trimMinus s.data.toList).toArray⟩ : ByteArray).data.toList = true := h
  clear h
  generalize (⟨(trimMinus s.data.toList).toArray⟩ : ByteArray) = r at TP tz hh
  have TPH := Lib.hid TP
  clear TP
  go_enter Tryz.func78, Tryz.ntmps78
  go_wp2_with (first
    | (go_at_call 79; refine (TPH.out _).mono ?_; rintro e w' ⟨rfl, rfl⟩)
    | (go_at_call 76; refine (digits_any r _ (by omega)).mono ?_; rintro e w1 ⟨rfl, hb1⟩; have R1 := resBlk_below R0 hb1; have c2 : w1.cell? ⟨w.heap.size, 2, none⟩ = some (.string s) := (hb1.cell (p := ⟨w.heap.size, 2, none⟩) (by simp <;> omega)).trans (HC0.out 2 _ rfl))
    | (go_at_call 80; refine (Tryz.strconv_ParseInt_10_at64_ok s (by omega) v HP.out _).mono ?_; rintro e w2 ⟨rfl, hw2⟩; have hb2 := parse_below2 hw2; clear hw2; have R2 := resBlk_below R1 hb2)
    | (go_at_call 67; refine (number_any _ _ _).mono ?_; rintro e w3 ⟨rfl, hb3⟩; have R3 := resBlk_below R2 hb3)
    | (refine wpList_store_row rfl 27 (.tmp 2) (.tmp 29) rfl (w.heap.size + 1) #[.int .i64 2, .int .u64 (IntKind.u64.wrap v), .string ⟨#[]⟩] rfl rfl 27 valZ R3.at_ (by kernel_rfl) rfl (by kernel_rfl) ?_)
    | go_in)
  exact bodyPost_ret (results_row_tmp rfl _ _ (w.heap.size + 1) 27 #[.int .i64 2, .int .u64 (IntKind.u64.wrap v), .string ⟨#[]⟩] (0, 0) _ rfl (setRow_heap _ _ _ _ _ _ R3.at_) Tryz.underlying27 rfl (by kernel_rfl)) rfl ⟨rfl, below_setRow R3.below (by omega) _⟩

end Go.Proofs.YthfhkfebkpdkcaaGreatDoor
