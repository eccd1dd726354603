/- The two questions of ConvStart on the entries are answered true, for every name and every world. -/
import Derived.Test.YthfhkfebkpdkcaaGreatDoorVEnl
import Derived.Test.YthfhkfebkpdkcaaGreatDoorVS2
import Derived.Laws.StructEq
namespace Go.Proofs.YthfhkfebkpdkcaaGreatDoor
open Go.RowKit Go.Lib Go.Proofs.YthfhkfebkpdkcaaGreatDoorW.PrintWords
set_option linter.unusedVariables false
set_option linter.unusedSimpArgs false

/-! ### start -/
theorem start_f : S.stratumlaw06_start.f 14 = some true := by kernel_rfl
def stratumlaw06_start.f : Option Bool := some true
theorem stratumlaw06_start.calls (r : Bool) (w : World) (h : stratumlaw06_start.f = some r) : Calls Tryz.prog 18 #[] w fun e w' => e = .returned (.bool r) ∧ Below w.heap.size w w' := by
  obtain rfl := Option.some.inj h
  exact S.stratumlaw06_start.calls 14 true w start_f

/-! ### own: lists that are written into, and appended to -/
def nameC (s : ByteArray) (z : Int) : List Value := [.int .i64 0, .int .i64 0, .string s, .int .i64 z]
def nameFill (s : ByteArray) (k : Nat) : Array Value := ((List.replicate k (nameC s (-1))).flatten ++ (fillL convEs 12).toList.drop (k * 4)).toArray
theorem name_step (s : ByteArray) (k : Nat) (h : k < 12) :
    ((((nameFill s k).setIfInBounds (k * 4) (.int .i64 0)).setIfInBounds (k * 4 + 1) (.int .i64 0)).setIfInBounds (k * 4 + 2) (.string s)).setIfInBounds (k * 4 + 3) (.int .i64 (-1)) = nameFill s (k + 1) ∧ (nameFill s k).size = 48 := by
  match k, h with
  | 0, _ | 1, _ | 2, _ | 3, _ | 4, _ | 5, _ | 6, _ | 7, _ | 8, _ | 9, _ | 10, _ | 11, _ => exact ⟨by kernel_rfl, by kernel_rfl⟩
/-- A row of n entries of one name. -/
def nameRow (s : ByteArray) (z : Int) (n : Nat) : List Value := (List.replicate n (nameC s z)).flatten
theorem nameRow_succ (s : ByteArray) (z : Int) (n : Nat) : nameRow s z n ++ nameC s z = nameRow s z (n + 1) := by
  unfold nameRow
  rw [List.replicate_succ', List.flatten_append]
  simp
theorem nameRow_add (s : ByteArray) (z : Int) (m n : Nat) : nameRow s z m ++ nameRow s z n = nameRow s z (m + n) := by
  unfold nameRow
  rw [← List.flatten_append, List.replicate_append_replicate]
theorem nameRow_at (s : ByteArray) (z : Int) : ∀ (n j : Nat), j < n → (nameRow s z n)[j * 4]? = some (.int .i64 0) ∧ (nameRow s z n)[j * 4 + 1]? = some (.int .i64 0) ∧ (nameRow s z n)[j * 4 + 2]? = some (.string s) ∧ (nameRow s z n)[j * 4 + 3]? = some (.int .i64 z)
  | 0, j, h => absurd h (by omega)
  | n + 1, 0, _ => ⟨rfl, rfl, rfl, rfl⟩
  | n + 1, j + 1, h => by
    have ih := nameRow_at s z n j (by omega)
    have e : nameRow s z (n + 1) = nameC s z ++ nameRow s z n := by kernel_rfl
    rw [e, show (j + 1) * 4 = j * 4 + 4 by omega, show j * 4 + 4 + 1 = j * 4 + 1 + 4 by omega, show j * 4 + 4 + 2 = j * 4 + 2 + 4 by omega, show j * 4 + 4 + 3 = j * 4 + 3 + 4 by omega]
    rw [List.getElem?_append_right (by simp [nameC]), List.getElem?_append_right (by simp [nameC]), List.getElem?_append_right (by simp [nameC]), List.getElem?_append_right (by simp [nameC])]
    simpa [nameC] using ih
theorem table_f : S.stratumlaw06_table.f 14 convEnts = some true := by kernel_rfl
theorem nameFill_all (s : ByteArray) : (nameFill s 12).toList = nameRow s (-1) 12 := by kernel_rfl
theorem entry_info : ((Tryz.prog).info? 59).map (fun i => (i.zero, i.size, i.bytes)) = some (some (.agg #[.int .i64 0, .int .i64 0, .string ⟨#[]⟩, .int .i64 0]), 4, 40) := by kernel_rfl
/-- The cells of a whole block. -/
theorem block_cells {w : World} {g : Nat} {cs : Array Value} {t : TypeId} (h : w.heap[g]? = some (.cells cs t (0, 0))) : ∀ j u, cs.toList[j]? = some u → w.cell? ((⟨g, 0, none⟩ : Addr).add j) = some u := by
  intro j u hu
  rw [add_none]
  exact cell_of_heap h j u (by simpa using hu)
/-- A list grown behind a block: k elements appended. -/
def GrowRel (W : World) (v0 : Value) (old : List Value) (s : ByteArray) (z : Int) (k : Nat) (v : Value) (wr : World) : Prop :=
  (k = 0 → v = v0) ∧ (0 < k → wr.ownsRow W.heap.size 59 4 v (12 + k) (old ++ nameRow s z k)) ∧ Below W.heap.size W wr
theorem news_of (w : World) (s : ByteArray) (z : Int) : ∀ j u, (nameC s z)[j]? = some u → (w.alloc (.cells #[.int .i64 0, .int .i64 0, .string s, .int .i64 z] 59)).cell? ((⟨w.heap.size, 0, none⟩ : Addr).add j) = some u :=
  fun j u hu => block_cells (heap_last w _) j u hu
set_option maxRecDepth 100000 in
set_option maxHeartbeats 4000000 in
theorem own_any (s : ByteArray) (w : World) : Calls Tryz.prog 19 #[.string s] w fun e w' => e = .returned (.bool true) ∧ Below w.heap.size w w' := by
  obtain ⟨i0, hi0, hz0, hz1, hz2⟩ := info_parts entry_info
  have HI := Lib.hid hi0
  have HZ0 := Lib.hid hz0
  have HZ1 := Lib.hid hz1
  have HZ2 := Lib.hid hz2
  clear hi0 hz0 hz1 hz2
  go_enter Tryz.func19, Tryz.ntmps19
  go_wp2_with fail
  refine (centries_any _).mono ?_
  rintro e w1 ⟨gl, rfl, hgl, hl, hb1⟩
  go_wp2_with fail
  refine (centries_any _).mono ?_
  rintro e w2 ⟨gm, rfl, hgm, hm, hb2⟩
  have ll : gl < w1.heap.size := heap_lt hl
  have L2 : w2.heap[gl]? = some (.cells (nameFill s 0) 74 (0, 0)) := (hb2.block _ ll).trans hl
  have B2 : Below w.heap.size w w2 := below_then hb1 hb1.size hb2
  have lm : gm < w2.heap.size := heap_lt hm
  clear hl hb1 hb2
  go_wp2
  go_loopw [5] (fun i wr => ∃ k : Nat, k ≤ 12 ∧ i = .int .i64 k ∧ wr.heap[gl]? = some (.cells (nameFill s k) 74 (0, 0)) ∧ wr.heap[gm]? = some (.cells (fillL convEs 12) 74 (0, 0)) ∧ Below w.heap.size w wr) (fun i _ => 12 - (RowKit.intOf i).toNat)
  case atStart => exact ⟨0, by omega, rfl, L2, hm, B2⟩
  case round =>
    clear L2 hm B2
    obtain ⟨k, hk, rfl, hL, hM, hB⟩ := hrel
    have HL := Lib.hid hL
    have HM := Lib.hid hM
    have HB := Lib.hid hB
    clear hL hM hB
    by_cases hlt : k < 12
    · as_aux_lemma =>
      obtain ⟨hs1, hs2⟩ := name_step s k hlt
      have H1 := Lib.hid hs1
      have H2 := Lib.hid hs2
      clear hs1 hs2
      have k0 : (0 : Int) ≤ (k : Int) := Int.natCast_nonneg _
      have k1 : (k : Int) < 12 := by omega
      go_wp2_with (refine wpList_store_mid rfl 59 (.tmp 23) (.tmp 22) rfl gl (k * 4) #[.int .i64 0, .int .i64 0, .string s, .int .i64 (-1)] rfl rfl (there_of HL.out (k * 4) 4 (by rw [H2.out]; omega)) (by kernel_rfl) (by simp [Value.oneCell']) ?_; have hX : (wr.setCells gl (k * 4) [.int .i64 0, .int .i64 0, .string s, .int .i64 (-1)]).heap[gl]? = some (.cells (nameFill s (k + 1)) 74 (0, 0)) := (set4_heap HL.out (k * 4) _ _ _ _).trans (by rw [H1.out]); have hY := (set4_far wr gl (k * 4) gm (.int .i64 0) (.int .i64 0) (.string s) (.int .i64 (-1)) (by omega)).trans HM.out; have hZ := set4_below HB.out gl (k * 4) (.int .i64 0) (.int .i64 0) (.string s) (.int .i64 (-1)) hgl; generalize wr.setCells gl (k * 4) [.int .i64 0, .int .i64 0, .string s, .int .i64 (-1)] = w3 at hX hY hZ ⊢; have HX := Lib.hid hX; have HY := Lib.hid hY; have HZ := Lib.hid hZ; clear hX hY hZ)
      go_roundw
      case rel => exact ⟨k + 1, by omega, by go_num, HX.out, HY.out, HZ.out⟩
      case measure => simp [RowKit.intOf]; omega
    · obtain rfl : k = 12 := by omega
      clear hlt hk
      --BEHIND LOOP 1
      have hll : gl < wr.heap.size := heap_lt HL.out
      have hlm : gm < wr.heap.size := heap_lt HM.out
      obtain ⟨wA, rfl⟩ : ∃ wA : World, wA = wr := ⟨_, rfl⟩
      rw [show ((12 : Nat) : Int) = 12 from rfl]
      go_wp2
      go_loopw [6, 7] (fun v i wq => ∃ k : Nat, k ≤ 40 ∧ i = .int .i64 k ∧ GrowRel wA (.slice (some ⟨gl, 0, none⟩) 12 12) (nameFill s 12).toList s (-1) k v wq) (fun _ i _ => 40 - (RowKit.intOf i).toNat)
      case atStart => exact ⟨0, by omega, rfl, fun _ => rfl, fun h => absurd h (by omega), Below.refl _ _⟩
      case round =>
        obtain ⟨k, hk, rfl, g0, g1, hq⟩ := hrel
        have G0 := Lib.hid g0
        have G1 := Lib.hid g1
        have HQ := Lib.hid hq
        clear g0 g1 hq
        by_cases hlt : k < 40
        · by_cases hk0 : k = 0
          · as_aux_lemma =>
            subst hk0
            obtain rfl := G0.out rfl
            clear G0 G1
            have hsz := HQ.out.size
            go_wp2_with (at_builtin; refine wpList_append_grows _ rfl (.tmp 29) (.tmp 32) _ rfl 59 i0 _ 4 40 Tryz.underlying56 HI.out HZ0.out HZ1.out HZ2.out rfl (by omega) (some ⟨gl, 0, none⟩) 12 12 (nameFill s 12).toList rfl (fun h => by cases h) (by kernel_rfl) (fun b hb => by cases hb; exact block_cells (((HQ.out.alloc HQ.out.size _).block _ hll).trans HL.out)) ⟨_, 0, none⟩ 1 1 (nameC s (-1)) rfl rfl (news_of _ s (-1)) (by simp [nameC, Value.oneCell']) (by omega) (by unfold maxLen; omega) (by omega) ?_; intro v1 w5 hown hg)
            have hX : GrowRel wA (.slice (some ⟨gl, 0, none⟩) 12 12) (nameFill s 12).toList s (-1) 1 v1 w5 := ⟨fun h => absurd h (by decide), fun _ => owns_lower hown (by simp; omega), (HQ.out.alloc HQ.out.size _).grown hg (by simp; omega) (fun k h => by cases h)⟩
            have HX := Lib.hid hX
            clear hX hown hg
            go_roundw
            case rel => exact ⟨1, by omega, by go_num, HX.out⟩
            case measure => simp [RowKit.intOf]
          · as_aux_lemma =>
            have kp : 0 < k := by omega
            have hown := G1.out kp
            have hsz := HQ.out.size
            clear G0 G1
            go_wp2_with (at_builtin; refine wpList_append_own _ rfl (.tmp 29) (.tmp 32) _ rfl wA.heap.size 59 i0 _ 4 40 Tryz.underlying56 HI.out HZ0.out HZ1.out HZ2.out rfl (by omega) _ (12 + k) ((nameFill s 12).toList ++ nameRow s (-1) k) rfl (hown.alloc _) ⟨_, 0, none⟩ 1 1 (nameC s (-1)) rfl rfl (news_of _ s (-1)) (by simp [nameC, Value.oneCell']) (by unfold maxLen; omega) (by omega) (by simp; omega) ?_; intro v1 w5 hown1 hg _)
            have hX : GrowRel wA (.slice (some ⟨gl, 0, none⟩) 12 12) (nameFill s 12).toList s (-1) (k + 1) v1 w5 := ⟨fun h => absurd h (by omega), fun _ => by rw [List.append_assoc, nameRow_succ] at hown1; exact hown1, (HQ.out.alloc HQ.out.size _).grown hg (by simp; omega) (fun k h => own_block_base hown k h)⟩
            have HX := Lib.hid hX
            clear hX hown1 hg hown
            go_roundw
            case rel => exact ⟨k + 1, by omega, by go_num, HX.out⟩
            case measure => simp [RowKit.intOf]; omega
        · obtain rfl : k = 40 := by omega
          clear hlt hk
          rw [show ((40 : Nat) : Int) = 40 from rfl]
          have hown : wr.ownsRow wA.heap.size 59 4 _ 52 _ := G1.out (by decide)
          rw [nameFill_all, nameRow_add] at hown
          clear G0 G1
          rcases hown.2 with ⟨rfl, h0⟩ | ⟨gg, capg, cur, rfl, _⟩
          · exact absurd h0 (by decide)
          obtain ⟨w6, rfl⟩ : ∃ w6 : World, w6 = wr := ⟨_, rfl⟩
          have hown6 := hown
          have HB6 := Lib.hid (below_then HB.out HB.out.size HQ.out)
          have hm6 := (HQ.out.block _ hlm).trans HM.out
          have lm6 : gm < w6.heap.size := heap_lt hm6
          clear HQ hown
          have HO6 := Lib.hid hown6
          clear hown6
          have HM6 := Lib.hid hm6
          clear hm6
          go_wp2
          have hown6 := HO6.out
          have hm6 := HM6.out
          go_loopw [8, 9] (fun v i wq => ∃ k : Nat, k ≤ 40 ∧ i = .int .i64 k ∧ GrowRel w6 (.slice (some ⟨gm, 0, none⟩) 12 12) (fillL convEs 12).toList s (-2) k v wq) (fun _ i _ => 40 - (RowKit.intOf i).toNat)
          case atStart => exact ⟨0, by omega, rfl, fun _ => rfl, fun h => absurd h (by omega), Below.refl _ _⟩
          case round =>
            obtain ⟨k, hk, rfl, g0, g1, hq⟩ := hrel
            have G0 := Lib.hid g0
            have G1 := Lib.hid g1
            have HQ := Lib.hid hq
            clear g0 g1 hq
            by_cases hlt : k < 40
            · by_cases hk0 : k = 0
              · as_aux_lemma =>
                subst hk0
                obtain rfl := G0.out rfl
                clear G0 G1
                have hsz := HQ.out.size
                go_wp2_with (at_builtin; refine wpList_append_grows _ rfl (.tmp 39) (.tmp 42) _ rfl 59 i0 _ 4 40 Tryz.underlying56 HI.out HZ0.out HZ1.out HZ2.out rfl (by omega) (some ⟨gm, 0, none⟩) 12 12 (fillL convEs 12).toList rfl (fun h => by cases h) (by kernel_rfl) (fun b hb => by cases hb; exact block_cells (((HQ.out.alloc HQ.out.size _).block _ lm6).trans hm6)) ⟨_, 0, none⟩ 1 1 (nameC s (-2)) rfl rfl (news_of _ s (-2)) (by simp [nameC, Value.oneCell']) (by omega) (by unfold maxLen; omega) (by omega) ?_; intro v1 w5 hown hg)
                have hX : GrowRel w6 (.slice (some ⟨gm, 0, none⟩) 12 12) (fillL convEs 12).toList s (-2) 1 v1 w5 := ⟨fun h => absurd h (by decide), fun _ => owns_lower hown (by simp; omega), (HQ.out.alloc HQ.out.size _).grown hg (by simp; omega) (fun k h => by cases h)⟩
                have HX := Lib.hid hX
                clear hX hown hg
                go_roundw
                case rel => exact ⟨1, by omega, by go_num, HX.out⟩
                case measure => simp [RowKit.intOf]
              · as_aux_lemma =>
                have kp : 0 < k := by omega
                have hown := G1.out kp
                have hsz := HQ.out.size
                clear G0 G1
                go_wp2_with (at_builtin; refine wpList_append_own _ rfl (.tmp 39) (.tmp 42) _ rfl w6.heap.size 59 i0 _ 4 40 Tryz.underlying56 HI.out HZ0.out HZ1.out HZ2.out rfl (by omega) _ (12 + k) ((fillL convEs 12).toList ++ nameRow s (-2) k) rfl (hown.alloc _) ⟨_, 0, none⟩ 1 1 (nameC s (-2)) rfl rfl (news_of _ s (-2)) (by simp [nameC, Value.oneCell']) (by unfold maxLen; omega) (by omega) (by simp; omega) ?_; intro v1 w5 hown1 hg _)
                have hX : GrowRel w6 (.slice (some ⟨gm, 0, none⟩) 12 12) (fillL convEs 12).toList s (-2) (k + 1) v1 w5 := ⟨fun h => absurd h (by omega), fun _ => by rw [List.append_assoc, nameRow_succ] at hown1; exact hown1, (HQ.out.alloc HQ.out.size _).grown hg (by simp; omega) (fun k h => own_block_base hown k h)⟩
                have HX := Lib.hid hX
                clear hX hown1 hg hown
                go_roundw
                case rel => exact ⟨k + 1, by omega, by go_num, HX.out⟩
                case measure => simp [RowKit.intOf]; omega
            · obtain rfl : k = 40 := by omega
              clear hlt hk
              rw [show ((40 : Nat) : Int) = 40 from rfl]
              have hownH : wr.ownsRow w6.heap.size 59 4 _ 52 _ := G1.out (by decide)
              clear G0 G1
              rcases hownH.2 with ⟨rfl, h0⟩ | ⟨gh, caph, curh, rfl, _⟩
              · exact absurd h0 (by decide)
              clear hownH
              obtain ⟨w7, rfl⟩ : ∃ w7 : World, w7 = wr := ⟨_, rfl⟩
              have hq7 := HQ.out
              have hown7 := pw_own_below hown6 hq7
              have HB7 := Lib.hid (below_then HB6.out HB6.out.size hq7)
              have hm7 := (hq7.block _ lm6).trans hm6
              have HT := Lib.hid (S.stratumlaw06_table.calls 14 (some ⟨gm, 0, none⟩) 12 convEnts true w7 (Kd.R_reads' (fill_own (Nat.zero_le _) hm7)).2.2 (by decide) table_f)
              have HO := Lib.hid hown7
              clear hm7 hown7 hq7 HQ hown6 hm6 lm6
              go_wp2
              go_loop [10] (fun i => ∃ k : Nat, k ≤ 52 ∧ i = .int .i64 k) (fun i => 52 - (RowKit.intOf i).toNat)
              case atStart => exact ⟨0, by omega, rfl⟩
              case round =>
                obtain ⟨k, hk, rfl⟩ := hrel
                by_cases hlt : k < 52
                · as_aux_lemma =>
                  obtain ⟨n0, n1, n2, n3⟩ := nameRow_at s (-1) 52 k hlt
                  have c0 := owns_cell HO.out _ _ n0
                  have c1 := owns_cell HO.out _ _ n1
                  have c2 := owns_cell HO.out _ _ n2
                  have c3 := owns_cell HO.out _ _ n3
                  have k0 : (0 : Int) ≤ (k : Int) := Int.natCast_nonneg _
                  have k1 : (k : Int) < 52 := by omega
                  clear n0 n1 n2 n3
                  go_wp2
                  go_round
                  case rel => exact ⟨k + 1, by omega, by go_num⟩
                  case measure => simp [RowKit.intOf]; omega
                · obtain rfl : k = 52 := by omega
                  clear hlt hk
                  rw [show ((52 : Nat) : Int) = 52 from rfl]
                  go_wp2_with (go_at_call 35; refine HT.out.mono ?_; rintro e w8 ⟨rfl, hb8⟩)
                  go_ret
                  exact ⟨rfl, below_then HB7.out HB7.out.size hb8⟩
def stratumlaw06_own.f (_ : ByteArray) : Option Bool := some true
theorem stratumlaw06_own.calls (a0 : ByteArray) (r : Bool) (w : World) (h : stratumlaw06_own.f a0 = some r) : Calls Tryz.prog 19 #[.string a0] w fun e w' => e = .returned (.bool r) ∧ Below w.heap.size w w' := by
  obtain rfl := Option.some.inj h
  exact own_any a0 w
end Go.Proofs.YthfhkfebkpdkcaaGreatDoor
