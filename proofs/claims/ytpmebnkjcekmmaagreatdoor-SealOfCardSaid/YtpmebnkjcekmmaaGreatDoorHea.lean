/- seal.Head answers a plain list of 512 bytes, for every number of 64 bits. -/
import Derived.Test.YtpmebnkjcekmmaaGreatDoorMrk
import Derived.Test.YtpmebnkjcekmmaaGreatDoorT10
import Derived.Lib.SlBytesConst
import Derived.IntWalk
namespace Go.Proofs.YtpmebnkjcekmmaaGreatDoor
open Go.RowKit Go.Lib Go.Proofs.YtpmebnkjcekmmaaGreatDoorW.PrintWords Go.Proofs.YtpmebnkjcekmmaaGreatDoorW.PrintLast
set_option linter.unusedVariables false
set_option linter.unusedSimpArgs false

/-! ### seal.little of a row without room -/
def bytesK (x : Int) : Nat → List Int
  | 0 => []
  | k + 1 => (x % 256) :: bytesK (x / 256) k
def shiftK (x : Int) : Nat → Int
  | 0 => x
  | k + 1 => shiftK (x / 256) k
theorem shiftK_succ : ∀ (k : Nat) (x : Int), shiftK x (k + 1) = shiftK x k / 256
  | 0, x => rfl
  | k + 1, x => by
    show shiftK (x / 256) (k + 1) = shiftK (x / 256) k / 256
    exact shiftK_succ k (x / 256)
theorem bytesK_succ : ∀ (k : Nat) (x : Int), bytesK x (k + 1) = bytesK x k ++ [shiftK x k % 256]
  | 0, x => rfl
  | k + 1, x => by
    show x % 256 :: bytesK (x / 256) (k + 1) = _
    rw [bytesK_succ k (x / 256)]
    rfl
theorem shiftK_bounds : ∀ (k : Nat) (x : Int), 0 ≤ x → x ≤ 18446744073709551615 → 0 ≤ shiftK x k ∧ shiftK x k ≤ 18446744073709551615
  | 0, x, h0, h1 => ⟨h0, h1⟩
  | k + 1, x, h0, h1 => shiftK_bounds k (x / 256) (by omega) (by omega)
theorem byte_info : ((Tryz.prog).info? 5).map (fun i => (i.zero, i.size, i.bytes)) = some (some (.int .u8 0), 1, 1) := by kernel_rfl
def LitRel (W : World) (v0 : Value) (old : List Int) (n : Nat) (x : Int) (k : Nat) (v : Value) (wr : World) : Prop :=
  (k = 0 → v = v0) ∧ (0 < k → wr.ownsRow W.heap.size 5 1 v (n + k) (nums .u8 (old ++ bytesK x k))) ∧ Below W.heap.size W wr
set_option maxRecDepth 100000 in
set_option maxHeartbeats 4000000 in
theorem little_full (g : Nat) (old : List Int) (x : Int) (w : World) (h0 : 0 ≤ x) (h1 : x ≤ 18446744073709551615) (hl : old.length = 8)
    (hc : ∀ j u, (nums .u8 old)[j]? = some u → w.cell? ((⟨g, 0, none⟩ : Addr).add j) = some u) :
    Calls Tryz.prog 43 #[.slice (some ⟨g, 0, none⟩) 8 8, .int .u64 x] w fun e w' => ∃ v, e = .returned v ∧ w'.ownsRow w.heap.size 5 1 v 16 (nums .u8 (old ++ bytesK x 8)) ∧ Below w.heap.size w w' := by
  obtain ⟨i0, hi0, hz0, hz1, hz2⟩ := info_parts byte_info
  have HI := Lib.hid hi0
  have HZ0 := Lib.hid hz0
  have HZ1 := Lib.hid hz1
  have HZ2 := Lib.hid hz2
  have HC := Lib.hid hc
  have HL := Lib.hid hl
  clear hi0 hz0 hz1 hz2 hc hl
  go_enter Tryz.func43, Tryz.ntmps43
  go_wp2
  go_loopw [0, 1, 5] (fun v xv i wr => ∃ k : Nat, k ≤ 8 ∧ i = .int .i64 k ∧ xv = .int .u64 (shiftK x k) ∧ LitRel w (.slice (some ⟨g, 0, none⟩) 8 8) old 8 x k v wr) (fun _ _ i _ => 8 - (RowKit.intOf i).toNat)
  case atStart => exact ⟨0, by omega, rfl, rfl, fun _ => rfl, fun h => absurd h (by omega), Below.refl _ _⟩
  case round =>
    obtain ⟨k, hk, rfl, rfl, g0, g1, hq⟩ := hrel
    have G0 := Lib.hid g0
    have G1 := Lib.hid g1
    have HQ := Lib.hid hq
    clear g0 g1 hq
    have sb := shiftK_bounds k x h0 h1
    have s0 := sb.1
    have s1 := sb.2
    have SS := Lib.hid (shiftK_succ k x)
    have BB := Lib.hid (bytesK_succ k x)
    clear sb
    obtain ⟨y, hy⟩ : ∃ y, y = shiftK x k := ⟨_, rfl⟩
    rw [← hy] at s0 s1 ⊢
    have HY := Lib.hid hy
    clear hy
    by_cases hlt : k < 8
    · by_cases hk0 : k = 0
      · as_aux_lemma =>
        subst hk0
        obtain rfl := G0.out rfl
        clear G0 G1
        have hsz := HQ.out.size
        go_wp2_with (at_builtin; refine wpList_append_grows _ rfl (.tmp 7) (.tmp 10) _ rfl 5 i0 _ 1 1 Tryz.underlying27 HI.out HZ0.out HZ1.out HZ2.out rfl (by omega) (some ⟨g, 0, none⟩) 8 8 (nums .u8 old) rfl (fun h => by cases h) (by rw [nums_length, HL.out]) (fun b hb j u hu => by cases hb; have := HC.out j u hu; exact ((HQ.out.alloc HQ.out.size _).cell (World.block_lt_of_cell? _ _ this)).trans this) ⟨_, 0, none⟩ 1 1 [.int .u8 (y % 256)] rfl rfl (block_cells (heap_last _ _)) (by simp [Value.oneCell']) (by omega) (by unfold maxLen; omega) (by omega) ?_; intro v1 w5 hown hg)
        have hX : LitRel w (.slice (some ⟨g, 0, none⟩) 8 8) old 8 x 1 v1 w5 := ⟨fun h => absurd h (by decide), fun _ => by rw [BB.out, ← HY.out, ← List.append_assoc, nums_append, show old ++ bytesK x 0 = old from List.append_nil _]; exact owns_lower hown (HQ.out.alloc HQ.out.size _).size, (HQ.out.alloc HQ.out.size _).grown hg (HQ.out.alloc HQ.out.size _).size (fun k h => by cases h)⟩
        have HX := Lib.hid hX
        clear hX hown hg
        go_roundw
        case rel => exact ⟨1, by omega, by go_num, by rw [SS.out, ← HY.out], HX.out⟩
        case measure => simp [RowKit.intOf]
      · as_aux_lemma =>
        have kp : 0 < k := by omega
        have hown := G1.out kp
        have hsz := HQ.out.size
        clear G0 G1
        go_wp2_with (at_builtin; refine wpList_append_own _ rfl (.tmp 7) (.tmp 10) _ rfl w.heap.size 5 i0 _ 1 1 Tryz.underlying27 HI.out HZ0.out HZ1.out HZ2.out rfl (by omega) _ (8 + k) (nums .u8 (old ++ bytesK x k)) rfl (hown.alloc _) ⟨_, 0, none⟩ 1 1 [.int .u8 (y % 256)] rfl rfl (block_cells (heap_last _ _)) (by simp [Value.oneCell']) (by unfold maxLen; omega) (by omega) (by simp; omega) ?_; intro v1 w5 hown1 hg _)
        have hX : LitRel w (.slice (some ⟨g, 0, none⟩) 8 8) old 8 x (k + 1) v1 w5 := ⟨fun h => absurd h (by omega), fun _ => by rw [BB.out, ← HY.out, ← List.append_assoc, nums_append]; exact hown1, (HQ.out.alloc HQ.out.size _).grown hg (by simp; omega) (own_block_base hown)⟩
        have HX := Lib.hid hX
        clear hX hown1 hg hown
        go_roundw
        case rel => exact ⟨k + 1, by omega, by go_num, by rw [SS.out, ← HY.out], HX.out⟩
        case measure => simp [RowKit.intOf]; omega
    · obtain rfl : k = 8 := by omega
      have hown := G1.out (by decide)
      clear hlt hk G0 G1
      go_wp2
      go_ret
      exact ⟨_, rfl, hown, HQ.out⟩

/-! ### seal.Head -/
def magicI : List Int := [83, 84, 82, 65, 84, 85, 77, 49]
def markI : Int := 6763645315271308339
def headL (x : Int) : List Int := magicI ++ bytesK markI 8 ++ bytesK x 8 ++ List.replicate 488 0
theorem little_l0 : ∀ (d k i : Nat) (l : List Int) (x : Int), i + d = 8 → l.length + d ≤ 140737488355327 → T.seal_little.l0 (k + d + 1) l x (i : Int) = some (l ++ bytesK x d)
  | 0, k, i, l, x, hi, hl => by
    rw [show k + 0 + 1 = k + 1 by omega, T.seal_little.l0, if_neg (by omega)]
    show some l = some (l ++ [])
    rw [List.append_nil]
  | d + 1, k, i, l, x, hi, hl => by
    have w : wrap64 ((i : Int) + 1) = ((i + 1 : Nat) : Int) := by unfold wrap64; omega
    rw [show k + (d + 1) + 1 = (k + d + 1) + 1 by omega, T.seal_little.l0, if_pos (by omega), if_pos (by omega), w]
    rw [little_l0 d k (i + 1) _ _ (by clear w; omega) (by rw [List.length_append, List.length_singleton]; clear w; omega), List.append_assoc]
    rfl
theorem little_f (l : List Int) (x : Int) (hl : l.length ≤ 1000000) (k : Nat) : T.seal_little.f (k + 9) l x = some (l ++ bytesK x 8) := by
  unfold T.seal_little.f
  exact little_l0 8 k 0 l x rfl (by omega)
theorem bytesK_length : ∀ (k : Nat) (x : Int), (bytesK x k).length = k
  | 0, _ => rfl
  | k + 1, x => by rw [bytesK, List.length_cons, bytesK_length k]
set_option maxRecDepth 100000 in
set_option maxHeartbeats 4000000 in
theorem head_any (x : Int) (w : World) (h0 : 0 ≤ x) (h1 : x ≤ 18446744073709551615) :
    Calls Tryz.prog 14 #[.int .u64 x] w fun e w' => ∃ v, e = .returned v ∧ Kd.R (Kd.int .u8) 5 w' w.heap.size (fun _ => True) v (headL x) ∧ Below w.heap.size w w' := by
  have kc := Lib.run_convert_bytes_const (P := Tryz.prog) w 27 5 #[.int .u8 83, .int .u8 84, .int .u8 82, .int .u8 65, .int .u8 84, .int .u8 85, .int .u8 77, .int .u8 49] 8 8 Tryz.underlying27 Tryz.underlying5
  go_enter Tryz.func14, Tryz.ntmps14
  go_wp2_with fail
  refine (marked_any _).mono ?_
  rintro e w1 ⟨rfl, hb1⟩
  have hh : w1.heap[w.heap.size]? = some (.cells #[.int .u8 83, .int .u8 84, .int .u8 82, .int .u8 65, .int .u8 84, .int .u8 85, .int .u8 77, .int .u8 49] 5 (8, 9)) := (hb1.block _ (by simp)).trans (heap_last w _)
  have hcell : ∀ j u, (nums .u8 magicI)[j]? = some u → w1.cell? ((⟨w.heap.size, 0, none⟩ : Addr).add j) = some u := by
    intro j u hu
    rw [add_none]
    exact cell_of_heap hh j u (by simpa [nums, magicI] using hu)
  have B1 : Below w.heap.size w w1 := ((Below.refl w.heap.size w).alloc (Nat.le_refl _) (.cells #[.int .u8 83, .int .u8 84, .int .u8 82, .int .u8 65, .int .u8 84, .int .u8 85, .int .u8 77, .int .u8 49] 5 (8, 9))).trans (hb1.mono (by simp))
  have HB1 := Lib.hid B1
  have HC := Lib.hid hcell
  clear hh hcell B1 hb1 kc
  go_wp2_with fail
  refine (little_full w.heap.size magicI 6763645315271308339 _ (by decide) (by decide) rfl HC.out).mono ?_
  rintro e w2 ⟨v2, rfl, hown2, hb2⟩
  have HB2 := Lib.hid (below_then HB1.out HB1.out.size hb2)
  have HR2 := Lib.hid (show Kd.R (Kd.int .u8) 5 w2 w.heap.size (fun _ => True) v2 (magicI ++ bytesK markI 8) from Kd.R_of_own (own_weaken hown2 HB1.out.size) (fun _ _ => trivial))
  clear hown2 hb2
  go_wp2_with fail
  refine (T.seal_little.calls 9 (fun _ => True) v2 (magicI ++ bytesK markI 8) x _ w _ HB2.out HR2.out (little_f _ _ (by decide) 0)).mono ?_
  rintro e w3 ⟨v3, rfl, hR3, hB3, _⟩
  have HB3 := Lib.hid hB3
  have HR3 := Lib.hid (Kd.R_mono (ok' := fun _ => True) hR3 (fun _ _ => trivial))
  have hlen : (magicI ++ bytesK markI 8 ++ bytesK x 8).length = 24 := by simp [bytesK_length, magicI]
  have HL := Lib.hid hlen
  clear hR3 hB3 hlen
  go_wp2_with (at_builtin; refine Kd.R_append_zeros (Kd.int .u8) (w0 := w) w.heap.size rfl (.tmp 10) (.const (.int .i64 488)) 27 3 5 (.int .u8 0) 1 rfl Tryz.underlying27 Tryz.underlying3 byte_info rfl (by decide) (by omega) v3 (magicI ++ bytesK markI 8 ++ bytesK x 8) 0 (488 : Int) (fun _ => True) rfl rfl rfl (fun _ _ => trivial) HR3.out (by omega) HB3.out HB3.out.size (by rw [HL.out]; decide) ?_; intro v4 w4 ho hb hg hat; have HO := Lib.hid ho; have HB4 := Lib.hid hb; clear ho hb hg hat)
  go_ret
  exact ⟨_, rfl, HO.out, HB4.out⟩
def seal_Head.f (a0 : Int) : Option (List Int) := if 0 ≤ a0 ∧ a0 ≤ 18446744073709551615 then some (headL a0) else none
theorem seal_Head.calls (a0 : Int) (r : List Int) (w : World) (h : seal_Head.f a0 = some r) :
    Calls Tryz.prog 14 #[.int .u64 a0] w fun e w' => ∃ v0_ : Value, e = .returned (v0_) ∧ Kd.R (Kd.int .u8) 5 w' w.heap.size (fun _ => True) v0_ r ∧ Below w.heap.size w w' := by
  unfold seal_Head.f at h
  split at h
  · rename_i c
    obtain rfl := Option.some.inj h
    exact head_any a0 w c.1 c.2
  · cases h
end Go.Proofs.YtpmebnkjcekmmaaGreatDoor
