/- slices.Concat of the three parts, and conv.table, for every world. -/
import Derived.Test.YthfhkfebkpdkcaaGreatDoorCa
namespace Go.Proofs.YthfhkfebkpdkcaaGreatDoor
open Go.RowKit
theorem cell_of_heap {w : World} {b : Nat} {cs : Array Value} {t : TypeId} {fr : Nat × Nat} (h : w.heap[b]? = some (.cells cs t fr)) (j : Nat) (v : Value) (hv : cs[j]? = some v) : w.cell? ⟨b, j, none⟩ = some v := by
  simp [World.cell?, h, hv]
theorem heap_lt {w : World} {b : Nat} {o : Obj} (h : w.heap[b]? = some o) : b < w.heap.size := by
  rcases Nat.lt_or_ge b w.heap.size with h' | h'
  · exact h'
  · simp [Array.getElem?_eq_none h'] at h
theorem own_block_base {w : World} {base : Nat} {e : TypeId} {size n : Nat} {v : Value} {xs : List Value} (h : w.ownsRow base e size v n xs) : ∀ k, v.ownBlock = some k → base ≤ k := by
  intro k hk
  rcases h.2 with ⟨rfl, _⟩ | ⟨g, cap, cur, rfl, hg, _⟩
  · cases hk
  · cases hk
    exact hg
theorem add_none (b j : Nat) : (⟨b, 0, none⟩ : Addr).add j = ⟨b, j, none⟩ := by unfold Addr.add; split <;> simp_all
/-- A row of four conversions, handed to append. -/
theorem row_news {w w1 : World} {B : Nat} (hb : Below B w w1) {a : Nat} {cs : Array Value} {t : TypeId} {fr : Nat × Nat} (h : w.heap[a]? = some (.cells cs t fr)) (ha : a < B) : ∀ j u, cs.toList[j]? = some u → w1.cell? ((⟨a, 0, none⟩ : Addr).add j) = some u := by
  intro j u hu
  rw [add_none, hb.cell (p := ⟨a, j, none⟩) ha]
  exact cell_of_heap h j u (by simpa using hu)
set_option maxRecDepth 100000 in
set_option maxHeartbeats 2000000 in
theorem concat_any (w : World) (p a b c : Nat) (hp : w.heap[p]? = some (.cells #[.slice (some ⟨a, 0, none⟩) 4 4, .slice (some ⟨b, 0, none⟩) 4 4, .slice (some ⟨c, 0, none⟩) 4 4] 53 (0, 0)))
    (ha : w.heap[a]? = some (.cells rowA 47 (0, 0))) (hb : w.heap[b]? = some (.cells rowB 47 (0, 0))) (hc : w.heap[c]? = some (.cells rowC 47 (0, 0))) :
    Calls Tryz.prog 48 #[.slice (some ⟨p, 0, none⟩) 3 3] w fun e w' => ∃ v, e = .returned v ∧ w'.ownsRow w.heap.size 47 4 v 12 convRows ∧ Below w.heap.size w w' := by
  have p0 := cell_of_heap hp 0 _ rfl
  have p1 := cell_of_heap hp 1 _ rfl
  have p2 := cell_of_heap hp 2 _ rfl
  have lp := heap_lt hp
  have la := heap_lt ha
  have lb := heap_lt hb
  have lc := heap_lt hc
  have HA := Lib.hid ha
  have HB := Lib.hid hb
  have HC := Lib.hid hc
  clear hp ha hb hc
  obtain ⟨i0, hi0, hz0, hz1, hz2⟩ := info_parts conv_info
  have HI := Lib.hid hi0
  have HZ0 := Lib.hid hz0
  have HZ1 := Lib.hid hz1
  have HZ2 := Lib.hid hz2
  clear hi0 hz0 hz1 hz2
  go_enter Tryz.func48, Tryz.ntmps48
  go_wp2
  refine wp_loop_rounds 4 ?_
  rw [rounds_succ]
  go_wp2
  rw [rounds_succ]
  go_wp2
  rw [rounds_succ]
  go_wp2
  rw [rounds_succ]
  go_wp2_with (go_at_call 63; refine (grow_any _).mono ?_; rintro e w1 ⟨v0, rfl, hown0, hb1⟩)
  have q0 := (hb1.cell (p := ⟨p, 0, none⟩) lp).trans p0
  have q1 := (hb1.cell (p := ⟨p, 1, none⟩) lp).trans p1
  have q2 := (hb1.cell (p := ⟨p, 2, none⟩) lp).trans p2
  have P0 := Lib.hid p0
  have P1 := Lib.hid p1
  have P2 := Lib.hid p2
  clear p0 p1 p2
  refine wp_loop_rounds 4 ?_
  rw [rounds_succ]
  go_wp2_with (at_builtin; refine wpList_append_own _ rfl (.tmp 31) (.tmp 32) _ rfl w.heap.size 47 i0 _ 4 32 Tryz.underlying53 HI.out HZ0.out HZ1.out HZ2.out rfl (by omega) v0 0 [] rfl hown0 ⟨a, 0, none⟩ 4 4 rowA.toList rfl rfl (row_news hb1 HA.out la) (by decide) (by unfold maxLen; omega) (by omega) hb1.size ?_; intro v1 w2 hown1 hg1 _)
  have hb2 := hb1.grown hg1 hb1.size (own_block_base hown0)
  have q0 := (hb2.cell (p := ⟨p, 0, none⟩) lp).trans P0.out
  have q1 := (hb2.cell (p := ⟨p, 1, none⟩) lp).trans P1.out
  have q2 := (hb2.cell (p := ⟨p, 2, none⟩) lp).trans P2.out
  rw [rounds_succ]
  go_wp2_with (at_builtin; refine wpList_append_own _ rfl (.tmp 31) (.tmp 32) _ rfl w.heap.size 47 i0 _ 4 32 Tryz.underlying53 HI.out HZ0.out HZ1.out HZ2.out rfl (by omega) v1 (0 + 4) ([] ++ rowA.toList) rfl hown1 ⟨b, 0, none⟩ 4 4 rowB.toList rfl rfl (row_news hb2 HB.out lb) (by decide) (by unfold maxLen; omega) (by omega) hb2.size ?_; intro v2 w3 hown2 hg2 _)
  have hb3 := hb2.grown hg2 hb2.size (own_block_base hown1)
  have q0 := (hb3.cell (p := ⟨p, 0, none⟩) lp).trans P0.out
  have q1 := (hb3.cell (p := ⟨p, 1, none⟩) lp).trans P1.out
  have q2 := (hb3.cell (p := ⟨p, 2, none⟩) lp).trans P2.out
  rw [rounds_succ]
  go_wp2_with (at_builtin; refine wpList_append_own _ rfl (.tmp 31) (.tmp 32) _ rfl w.heap.size 47 i0 _ 4 32 Tryz.underlying53 HI.out HZ0.out HZ1.out HZ2.out rfl (by omega) v2 (0 + 4 + 4) ([] ++ rowA.toList ++ rowB.toList) rfl hown2 ⟨c, 0, none⟩ 4 4 rowC.toList rfl rfl (row_news hb3 HC.out lc) (by decide) (by unfold maxLen; omega) (by omega) hb3.size ?_; intro v3 w4 hown3 hg3 _)
  have hb4 := hb3.grown hg3 hb3.size (own_block_base hown2)
  rw [rounds_succ]
  go_wp2
  go_ret
  exact ⟨v3, rfl, by simpa [convRows] using hown3, hb4⟩

theorem heap4 (w : World) (o1 o2 o3 o4 : Obj) : ((((w.alloc o1).alloc o2).alloc o3).alloc o4).heap[w.heap.size]? = some o1 ∧ ((((w.alloc o1).alloc o2).alloc o3).alloc o4).heap[w.heap.size + 1]? = some o2 ∧ ((((w.alloc o1).alloc o2).alloc o3).alloc o4).heap[w.heap.size + 1 + 1]? = some o3 ∧ ((((w.alloc o1).alloc o2).alloc o3).alloc o4).heap[w.heap.size + 1 + 1 + 1]? = some o4 := by
  have h2 := heap_last (w.alloc o1) o2
  have h3 := heap_last ((w.alloc o1).alloc o2) o3
  have h4 := heap_last (((w.alloc o1).alloc o2).alloc o3) o4
  rw [World.size_alloc] at h2 h3 h4
  rw [World.size_alloc] at h3 h4
  rw [World.size_alloc] at h4
  refine ⟨?_, ?_, ?_, h4⟩
  · rw [Below.heap_alloc _ _ _ (by simp <;> omega), Below.heap_alloc _ _ _ (by simp <;> omega), Below.heap_alloc _ _ _ (by simp)]
    exact heap_last w o1
  · rw [Below.heap_alloc _ _ _ (by simp <;> omega), Below.heap_alloc _ _ _ (by simp)]
    exact h2
  · rw [Below.heap_alloc _ _ _ (by simp)]
    exact h3
theorem below4 (w : World) (o1 o2 o3 o4 : Obj) : Below w.heap.size w ((((w.alloc o1).alloc o2).alloc o3).alloc o4) :=
  (below3 w o1 o2 o3).alloc (below3 w o1 o2 o3).size _
theorem owns_lower {w : World} {base base' : Nat} {e : TypeId} {size n : Nat} {v : Value} {xs : List Value} (h : w.ownsRow base e size v n xs) (hb : base' ≤ base) : w.ownsRow base' e size v n xs := by
  refine ⟨h.1, h.2.imp_right fun ⟨g, cap, cur, hv, hg, r⟩ => ⟨g, cap, cur, hv, Nat.le_trans hb hg, r⟩⟩
set_option maxRecDepth 100000 in
set_option maxHeartbeats 2000000 in
/-- conv.table: a new row of the twelve conversions. -/
theorem table_any (w : World) : Calls Tryz.prog 34 #[] w fun e w' => ∃ v, e = .returned v ∧ w'.ownsRow w.heap.size 47 4 v 12 convRows ∧ Below w.heap.size w w' := by
  go_enter Tryz.func34, Tryz.ntmps34
  go_wp2_with (first
    | (go_at_call 49; refine (ofNumbers_any _).mono ?_; rintro e w1 ⟨rfl, rfl⟩)
    | (go_at_call 50; refine (ofTexts_any _).mono ?_; rintro e w1 ⟨rfl, rfl⟩)
    | (go_at_call 51; refine (others_any _).mono ?_; rintro e w1 ⟨rfl, rfl⟩)
    | (go_at_call 48; fail))
  refine (concat_any _ _ _ _ _ (heap4 w _ _ _ _).2.2.2 (heap4 w _ _ _ _).1 (heap4 w _ _ _ _).2.1 (heap4 w _ _ _ _).2.2.1).mono ?_
  rintro e w' ⟨v, rfl, hown, hb⟩
  go_wp2
  go_ret
  have h4 := below4 w (.cells rowA 47) (.cells rowB 47) (.cells rowC 47) (.cells #[.slice (some ⟨w.heap.size, 0, none⟩) 4 4, .slice (some ⟨w.heap.size + 1, 0, none⟩) 4 4, .slice (some ⟨w.heap.size + 1 + 1, 0, none⟩) 4 4] 53)
  exact ⟨v, rfl, owns_lower hown h4.size, h4.trans (hb.mono h4.size)⟩

/-- conv.table, its slice written out. -/
theorem table_at (w : World) : Calls Tryz.prog 34 #[] w fun e w' => ∃ g cap, e = .returned (.slice (some ⟨g, 0, none⟩) 12 cap) ∧ w'.ownsRow w.heap.size 47 4 (.slice (some ⟨g, 0, none⟩) 12 cap) 12 convRows ∧ Below w.heap.size w w' := by
  refine (table_any w).mono ?_
  rintro e w' ⟨v, rfl, hown, hb⟩
  rcases hown.2 with ⟨rfl, h0⟩ | ⟨g, cap, cur, rfl, r⟩
  · exact absurd h0 (by decide)
  · exact ⟨g, cap, rfl, hown, hb⟩
/-- The cell of a new row. -/
theorem owns_cell {w : World} {base : Nat} {e : TypeId} {size n : Nat} {xs : List Value} {g cap o : Nat} (h : w.ownsRow base e size (.slice (some ⟨g, o, none⟩) n cap) n xs) (j : Nat) (u : Value) (hu : xs[j]? = some u) : w.cell? ⟨g, j, none⟩ = some u := by
  rcases h.2 with ⟨e1, _⟩ | ⟨g', cap', cur, e1, _, hh, _, _, _, htk⟩
  · cases e1
  · cases e1
    refine cell_of_heap hh j u ?_
    rw [← htk, List.getElem?_take] at hu
    split at hu
    · simpa using hu
    · cases hu
end Go.Proofs.YthfhkfebkpdkcaaGreatDoor
