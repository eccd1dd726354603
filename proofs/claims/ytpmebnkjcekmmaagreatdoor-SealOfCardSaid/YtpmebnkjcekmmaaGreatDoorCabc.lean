/- The three parts of the conversions' table, and slices.Grow of nothing by twelve, for every world. slices.Concat of the three parts, and conv.table, for every world. conv.of, From, To, Sure and Between answer the table, for every number and every pair of kinds. -/
import Derived.Test.YtpmebnkjcekmmaaGreatDoorKab
import Derived.Test.YtpmebnkjcekmmaaGreatDoorShelf
import Derived.WalkLawsBesides
import Derived.OwnWalk
import Derived.Outline
namespace Go.Proofs.YtpmebnkjcekmmaaGreatDoor
open Go.RowKit
def rowA : Array Value := #[.int .i64 1, .int .i64 2, .bool false, .func (.func 112) #[] #[], .int .i64 2, .int .i64 1, .bool false, .func (.func 115) #[] #[], .int .i64 1, .int .i64 4, .bool true, .func (.func 117) #[] #[], .int .i64 2, .int .i64 4, .bool true, .func (.func 120) #[] #[]]
set_option maxRecDepth 100000 in
set_option maxHeartbeats 1000000 in
theorem ofNumbers_any (w : World) : Calls Tryz.prog 89 #[] w fun e w' => e = .returned (.slice (some ⟨w.heap.size, 0, none⟩) 4 4) ∧ w.alloc (.cells rowA 90) = w' := by
  go_enter Tryz.func89, Tryz.ntmps89
  go_wp2
  go_ret
  exact ⟨rfl, rfl⟩
def rowB : Array Value := #[.int .i64 4, .int .i64 1, .bool false, .func (.func 122) #[] #[], .int .i64 4, .int .i64 2, .bool false, .func (.func 125) #[] #[], .int .i64 3, .int .i64 4, .bool true, .func (.func 129) #[] #[], .int .i64 4, .int .i64 3, .bool false, .func (.func 131) #[] #[]]
set_option maxRecDepth 100000 in
set_option maxHeartbeats 1000000 in
theorem ofTexts_any (w : World) : Calls Tryz.prog 90 #[] w fun e w' => e = .returned (.slice (some ⟨w.heap.size, 0, none⟩) 4 4) ∧ w.alloc (.cells rowB 90) = w' := by
  go_enter Tryz.func90, Tryz.ntmps90
  go_wp2
  go_ret
  exact ⟨rfl, rfl⟩
def rowC : Array Value := #[.int .i64 3, .int .i64 1, .bool true, .func (.func 132) #[] #[], .int .i64 1, .int .i64 3, .bool false, .func (.func 133) #[] #[], .int .i64 4, .int .i64 5, .bool true, .func (.func 135) #[] #[], .int .i64 5, .int .i64 4, .bool false, .func (.func 136) #[] #[]]
set_option maxRecDepth 100000 in
set_option maxHeartbeats 1000000 in
theorem others_any (w : World) : Calls Tryz.prog 91 #[] w fun e w' => e = .returned (.slice (some ⟨w.heap.size, 0, none⟩) 4 4) ∧ w.alloc (.cells rowC 90) = w' := by
  go_enter Tryz.func91, Tryz.ntmps91
  go_wp2
  go_ret
  exact ⟨rfl, rfl⟩
def convRows : List Value := rowA.toList ++ rowB.toList ++ rowC.toList
theorem conv_info : ((Tryz.prog).info? 90).map (fun i => (i.zero, i.size, i.bytes)) = some (some (.agg #[.int .i64 0, .int .i64 0, .bool false, .nilFunc]), 4, 32) := by kernel_rfl
theorem grow_any (w : World) : Calls Tryz.prog 109 #[.slice none 0 0, .int .i64 12] w fun e w' => ∃ v, e = .returned v ∧ w'.ownsRow w.heap.size 90 4 v 0 [] ∧ Below w.heap.size w w' := by
  obtain ⟨i0, hi0, hz0, hz1, hz2⟩ := info_parts conv_info
  have c := Any8.slices_Grow_grow Tryz.growC i0 _ hi0 hz0 (by rw [hz1]; decide) none 0 0 12 [] w (Nat.le_refl _) (by decide) (by rw [hz2]; decide) (by decide) (by simp) (fun _ => rfl) (fun a h => by cases h)
  change Calls Tryz.prog 109 #[.slice none 0 0, .int .i64 12] w _ at c
  have h12 := grownCap_ge w (0 + 12) 0 90
  have hm := grownCap_le_maxLen w (0 + 12) 0 90 (by unfold maxLen; omega)
  change Calls _ _ _ _ (fun e w' => e = .returned (.slice (some ⟨w.heap.size, 0, none⟩) 0 (grownCap w (0 + 12) 0 90)) ∧ w' = w.drew.alloc (.cells (#[] ++ Builtin.zeroCells #[.int .i64 0, .int .i64 0, .bool false, .nilFunc] (0 + 12 - 0) ++ Builtin.zeroCells #[.int .i64 0, .int .i64 0, .bool false, .nilFunc] (grownCap w (0 + 12) 0 90 - (0 + 12))) 90)) at c
  generalize grownCap w (0 + 12) 0 90 = cp at c h12 hm
  refine c.mono ?_
  rintro e w' ⟨rfl, rfl⟩
  refine ⟨_, rfl, ⟨rfl, .inr ⟨w.heap.size, cp, _, rfl, Nat.le_refl _, heap_last w.drew _, Nat.zero_le _, hm, ?_, ?_⟩⟩, ((Below.refl _ _).drew).alloc (Nat.le_refl _) _⟩
  · simp only [Array.size_append, size_zeroCells, List.size_toArray, List.length_cons, List.length_nil]
    omega
  · simp
end Go.Proofs.YtpmebnkjcekmmaaGreatDoor
namespace Go.Proofs.YtpmebnkjcekmmaaGreatDoor
open Go.RowKit
theorem cell_of_heap {w : World} {b : Nat} {cs : Array Value} {t : TypeId} {fr : Nat × Nat} (h : w.heap[b]? = some (.cells cs t fr)) (j : Nat) (v : Value) (hv : cs[j]? = some v) : w.cell? ⟨b, j, none⟩ = some v := by
  simp [World.cell?, h, hv]
theorem heap_lt {w : World} {b : Nat} {o : Obj} (h : w.heap[b]? = some o) : b < w.heap.size := by
  rcases Nat.lt_or_ge b w.heap.size with h' | h'
  · exact h'
  · simp [Array.getElem?_eq_none h'] at h
theorem own_block_base {w : World} {base : Nat} {e : TypeId} {size n : Nat} {v : Value} {xs : List Value} (h : w.ownsRow base e size v n xs) : ∀ k, v.ownBlock = some k → base ≤ k := by
  intro k hk
  rcases h.2 with ⟨rfl, _⟩ | ⟨g, cap, cur, rfl, hg, _⟩
  · cases hk
  · cases hk
    exact hg
theorem add_none (b j : Nat) : (⟨b, 0, none⟩ : Addr).add j = ⟨b, j, none⟩ := by unfold Addr.add; split <;> simp_all
/-- A row of four conversions, handed to append. -/
theorem row_news {w w1 : World} {B : Nat} (hb : Below B w w1) {a : Nat} {cs : Array Value} {t : TypeId} {fr : Nat × Nat} (h : w.heap[a]? = some (.cells cs t fr)) (ha : a < B) : ∀ j u, cs.toList[j]? = some u → w1.cell? ((⟨a, 0, none⟩ : Addr).add j) = some u := by
  intro j u hu
  rw [add_none, hb.cell (p := ⟨a, j, none⟩) ha]
  exact cell_of_heap h j u (by simpa using hu)
set_option maxRecDepth 100000 in
set_option maxHeartbeats 2000000 in
theorem concat_any (w : World) (p a b c : Nat) (hp : w.heap[p]? = some (.cells #[.slice (some ⟨a, 0, none⟩) 4 4, .slice (some ⟨b, 0, none⟩) 4 4, .slice (some ⟨c, 0, none⟩) 4 4] 86 (0, 0)))
    (ha : w.heap[a]? = some (.cells rowA 90 (0, 0))) (hb : w.heap[b]? = some (.cells rowB 90 (0, 0))) (hc : w.heap[c]? = some (.cells rowC 90 (0, 0))) :
    Calls Tryz.prog 88 #[.slice (some ⟨p, 0, none⟩) 3 3] w fun e w' => ∃ v, e = .returned v ∧ w'.ownsRow w.heap.size 90 4 v 12 convRows ∧ Below w.heap.size w w' := by
  have p0 := cell_of_heap hp 0 _ rfl
  have p1 := cell_of_heap hp 1 _ rfl
  have p2 := cell_of_heap hp 2 _ rfl
  have lp := heap_lt hp
  have la := heap_lt ha
  have lb := heap_lt hb
  have lc := heap_lt hc
  have HA := Lib.hid ha
  have HB := Lib.hid hb
  have HC := Lib.hid hc
  clear hp ha hb hc
  obtain ⟨i0, hi0, hz0, hz1, hz2⟩ := info_parts conv_info
  have HI := Lib.hid hi0
  have HZ0 := Lib.hid hz0
  have HZ1 := Lib.hid hz1
  have HZ2 := Lib.hid hz2
  clear hi0 hz0 hz1 hz2
  go_enter Tryz.func88, Tryz.ntmps88
  go_wp2
  refine wp_loop_rounds 4 ?_
  rw [rounds_succ]
  go_wp2
  rw [rounds_succ]
  go_wp2
  rw [rounds_succ]
  go_wp2
  rw [rounds_succ]
  go_wp2_with (go_at_call 109; refine (grow_any _).mono ?_; rintro e w1 ⟨v0, rfl, hown0, hb1⟩)
  have q0 := (hb1.cell (p := ⟨p, 0, none⟩) lp).trans p0
  have q1 := (hb1.cell (p := ⟨p, 1, none⟩) lp).trans p1
  have q2 := (hb1.cell (p := ⟨p, 2, none⟩) lp).trans p2
  have P0 := Lib.hid p0
  have P1 := Lib.hid p1
  have P2 := Lib.hid p2
  clear p0 p1 p2
  refine wp_loop_rounds 4 ?_
  rw [rounds_succ]
  go_wp2_with (at_builtin; refine wpList_append_own _ rfl (.tmp 31) (.tmp 32) _ rfl w.heap.size 90 i0 _ 4 32 Tryz.underlying86 HI.out HZ0.out HZ1.out HZ2.out rfl (by omega) v0 0 [] rfl hown0 ⟨a, 0, none⟩ 4 4 rowA.toList rfl rfl (row_news hb1 HA.out la) (by decide) (by unfold maxLen; omega) (by omega) hb1.size ?_; intro v1 w2 hown1 hg1 _)
  have hb2 := hb1.grown hg1 hb1.size (own_block_base hown0)
  have q0 := (hb2.cell (p := ⟨p, 0, none⟩) lp).trans P0.out
  have q1 := (hb2.cell (p := ⟨p, 1, none⟩) lp).trans P1.out
  have q2 := (hb2.cell (p := ⟨p, 2, none⟩) lp).trans P2.out
  rw [rounds_succ]
  go_wp2_with (at_builtin; refine wpList_append_own _ rfl (.tmp 31) (.tmp 32) _ rfl w.heap.size 90 i0 _ 4 32 Tryz.underlying86 HI.out HZ0.out HZ1.out HZ2.out rfl (by omega) v1 (0 + 4) ([] ++ rowA.toList) rfl hown1 ⟨b, 0, none⟩ 4 4 rowB.toList rfl rfl (row_news hb2 HB.out lb) (by decide) (by unfold maxLen; omega) (by omega) hb2.size ?_; intro v2 w3 hown2 hg2 _)
  have hb3 := hb2.grown hg2 hb2.size (own_block_base hown1)
  have q0 := (hb3.cell (p := ⟨p, 0, none⟩) lp).trans P0.out
  have q1 := (hb3.cell (p := ⟨p, 1, none⟩) lp).trans P1.out
  have q2 := (hb3.cell (p := ⟨p, 2, none⟩) lp).trans P2.out
  rw [rounds_succ]
  go_wp2_with (at_builtin; refine wpList_append_own _ rfl (.tmp 31) (.tmp 32) _ rfl w.heap.size 90 i0 _ 4 32 Tryz.underlying86 HI.out HZ0.out HZ1.out HZ2.out rfl (by omega) v2 (0 + 4 + 4) ([] ++ rowA.toList ++ rowB.toList) rfl hown2 ⟨c, 0, none⟩ 4 4 rowC.toList rfl rfl (row_news hb3 HC.out lc) (by decide) (by unfold maxLen; omega) (by omega) hb3.size ?_; intro v3 w4 hown3 hg3 _)
  have hb4 := hb3.grown hg3 hb3.size (own_block_base hown2)
  rw [rounds_succ]
  go_wp2
  go_ret
  exact ⟨v3, rfl, by simpa [convRows] using hown3, hb4⟩

theorem heap4 (w : World) (o1 o2 o3 o4 : Obj) : ((((w.alloc o1).alloc o2).alloc o3).alloc o4).heap[w.heap.size]? = some o1 ∧ ((((w.alloc o1).alloc o2).alloc o3).alloc o4).heap[w.heap.size + 1]? = some o2 ∧ ((((w.alloc o1).alloc o2).alloc o3).alloc o4).heap[w.heap.size + 1 + 1]? = some o3 ∧ ((((w.alloc o1).alloc o2).alloc o3).alloc o4).heap[w.heap.size + 1 + 1 + 1]? = some o4 := by
  have h2 := heap_last (w.alloc o1) o2
  have h3 := heap_last ((w.alloc o1).alloc o2) o3
  have h4 := heap_last (((w.alloc o1).alloc o2).alloc o3) o4
  rw [World.size_alloc] at h2 h3 h4
  rw [World.size_alloc] at h3 h4
  rw [World.size_alloc] at h4
  refine ⟨?_, ?_, ?_, h4⟩
  · rw [Below.heap_alloc _ _ _ (by simp <;> omega), Below.heap_alloc _ _ _ (by simp <;> omega), Below.heap_alloc _ _ _ (by simp)]
    exact heap_last w o1
  · rw [Below.heap_alloc _ _ _ (by simp <;> omega), Below.heap_alloc _ _ _ (by simp)]
    exact h2
  · rw [Below.heap_alloc _ _ _ (by simp)]
    exact h3
theorem below4 (w : World) (o1 o2 o3 o4 : Obj) : Below w.heap.size w ((((w.alloc o1).alloc o2).alloc o3).alloc o4) :=
  (below3 w o1 o2 o3).alloc (below3 w o1 o2 o3).size _
theorem owns_lower {w : World} {base base' : Nat} {e : TypeId} {size n : Nat} {v : Value} {xs : List Value} (h : w.ownsRow base e size v n xs) (hb : base' ≤ base) : w.ownsRow base' e size v n xs := by
  refine ⟨h.1, h.2.imp_right fun ⟨g, cap, cur, hv, hg, r⟩ => ⟨g, cap, cur, hv, Nat.le_trans hb hg, r⟩⟩
set_option maxRecDepth 100000 in
set_option maxHeartbeats 2000000 in
/-- conv.table: a new row of the twelve conversions. -/
theorem table_any (w : World) : Calls Tryz.prog 81 #[] w fun e w' => ∃ v, e = .returned v ∧ w'.ownsRow w.heap.size 90 4 v 12 convRows ∧ Below w.heap.size w w' := by
  go_enter Tryz.func81, Tryz.ntmps81
  go_wp2_with (first
    | (go_at_call 89; refine (ofNumbers_any _).mono ?_; rintro e w1 ⟨rfl, rfl⟩)
    | (go_at_call 90; refine (ofTexts_any _).mono ?_; rintro e w1 ⟨rfl, rfl⟩)
    | (go_at_call 91; refine (others_any _).mono ?_; rintro e w1 ⟨rfl, rfl⟩)
    | (go_at_call 88; fail))
  refine (concat_any _ _ _ _ _ (heap4 w _ _ _ _).2.2.2 (heap4 w _ _ _ _).1 (heap4 w _ _ _ _).2.1 (heap4 w _ _ _ _).2.2.1).mono ?_
  rintro e w' ⟨v, rfl, hown, hb⟩
  go_wp2
  go_ret
  have h4 := below4 w (.cells rowA 90) (.cells rowB 90) (.cells rowC 90) (.cells #[.slice (some ⟨w.heap.size, 0, none⟩) 4 4, .slice (some ⟨w.heap.size + 1, 0, none⟩) 4 4, .slice (some ⟨w.heap.size + 1 + 1, 0, none⟩) 4 4] 86)
  exact ⟨v, rfl, owns_lower hown h4.size, h4.trans (hb.mono h4.size)⟩

/-- conv.table, its slice written out. -/
theorem table_at (w : World) : Calls Tryz.prog 81 #[] w fun e w' => ∃ g cap, e = .returned (.slice (some ⟨g, 0, none⟩) 12 cap) ∧ w'.ownsRow w.heap.size 90 4 (.slice (some ⟨g, 0, none⟩) 12 cap) 12 convRows ∧ Below w.heap.size w w' := by
  refine (table_any w).mono ?_
  rintro e w' ⟨v, rfl, hown, hb⟩
  rcases hown.2 with ⟨rfl, h0⟩ | ⟨g, cap, cur, rfl, r⟩
  · exact absurd h0 (by decide)
  · exact ⟨g, cap, rfl, hown, hb⟩
/-- The cell of a new row. -/
theorem owns_cell {w : World} {base : Nat} {e : TypeId} {size n : Nat} {xs : List Value} {g cap o : Nat} (h : w.ownsRow base e size (.slice (some ⟨g, o, none⟩) n cap) n xs) (j : Nat) (u : Value) (hu : xs[j]? = some u) : w.cell? ⟨g, j, none⟩ = some u := by
  rcases h.2 with ⟨e1, _⟩ | ⟨g', cap', cur, e1, _, hh, _, _, _, htk⟩
  · cases e1
  · cases e1
    refine cell_of_heap hh j u ?_
    rw [← htk, List.getElem?_take] at hu
    split at hu
    · simpa using hu
    · cases hu
end Go.Proofs.YtpmebnkjcekmmaaGreatDoor
namespace Go.Proofs.YtpmebnkjcekmmaaGreatDoor
open Go.RowKit
theorem results_row_tmp {P : Program} {fn : Func} {p u : Tmp} {ty : TypeId} (h : fn.results = #[.cell p ty, .tmp u]) (tmps : Array Value) (w : World) (g : Nat) (t : TypeId) (cs : Array Value) (fr : Nat × Nat) (d : TypeDesc)
    (hp : tmps.getD p undef = .pointer (some ⟨g, 0, none⟩)) (hg : w.heap[g]? = some (.cells cs t fr))
    (hu : P.underlying ty = some d) (hd : (match d with | .struct _ | .array _ _ => true | _ => false) = true) (hi : (P.info? ty).map (·.size) = some cs.size) :
    (results fn tmps).run P w = .ok (.tuple #[.agg cs, tmps.getD u undef]) w := by
  have hp' : tmps[p]?.getD undef = .pointer (some ⟨g, 0, none⟩) := by simpa using hp
  simp [results, h, hp', asAddr, run_loadVar_row w g t ty cs fr d hg hu hd hi]
/-- The cells of conversion k. -/
def convAt (k : Nat) : Array Value := ((convRows.drop ((k - 1) * 4)).take 4).toArray
def convZ : Array Value := #[.int .i64 0, .int .i64 0, .bool false, .nilFunc]

set_option maxRecDepth 100000 in
set_option maxHeartbeats 2000000 in
theorem of_no (n : Int) (w : World) (h : n < 1 ∨ 12 < n) : Calls Tryz.prog 84 #[.int .i64 n] w fun e w' => e = .returned (.tuple #[.agg convZ, .bool false]) ∧ Below w.heap.size w w' := by
  rcases h with h | h
  · have t1 : decide (n < 1) = true := decide_eq_true h
    go_enter Tryz.func84, Tryz.ntmps84
    go_wp2_with (first
      | (go_at_call 81; refine (table_at _).mono ?_; rintro e w1 ⟨g, cap, rfl, hown, hb⟩; have hH : w1.heap[w.heap.size]? = some (.cells convZ 90 (0, 0)) := (hb.block _ (by simp)).trans (heap_last _ _); clear hown)
      | (refine wpList_store_row rfl 90 (.tmp 2) (.tmp 14) rfl w.heap.size convZ rfl rfl 90 convZ hH (by kernel_rfl) rfl (by kernel_rfl) ?_))
    exact bodyPost_ret (results_row_tmp rfl _ _ w.heap.size 90 convZ (0, 0) _ rfl (setRow_heap _ _ _ _ _ _ hH) Tryz.underlying90 rfl (by kernel_rfl)) rfl ⟨rfl, below_setRow (((Below.refl _ w).alloc (Nat.le_refl _) _).trans (hb.mono (by simp))) (Nat.le_refl _) _⟩
  · have t1 : decide (n < 1) = false := decide_eq_false (by omega)
    have t2 : decide (12 < n) = true := decide_eq_true h
    go_enter Tryz.func84, Tryz.ntmps84
    go_wp2_with (first
      | (go_at_call 81; refine (table_at _).mono ?_; rintro e w1 ⟨g, cap, rfl, hown, hb⟩; have hH : w1.heap[w.heap.size]? = some (.cells convZ 90 (0, 0)) := (hb.block _ (by simp)).trans (heap_last _ _); clear hown)
      | (refine wpList_store_row rfl 90 (.tmp 2) (.tmp 14) rfl w.heap.size convZ rfl rfl 90 convZ hH (by kernel_rfl) rfl (by kernel_rfl) ?_))
    exact bodyPost_ret (results_row_tmp rfl _ _ w.heap.size 90 convZ (0, 0) _ rfl (setRow_heap _ _ _ _ _ _ hH) Tryz.underlying90 rfl (by kernel_rfl)) rfl ⟨rfl, below_setRow (((Below.refl _ w).alloc (Nat.le_refl _) _).trans (hb.mono (by simp))) (Nat.le_refl _) _⟩

set_option maxRecDepth 100000 in
set_option maxHeartbeats 2000000 in
theorem of_yes (k : Nat) (w : World) (h1 : 1 ≤ k) (h2 : k ≤ 12) (x0 x1 x2 x3 : Value) (hx : convAt k = #[x0, x1, x2, x3])
    (hone : (#[x0, x1, x2, x3] : Array Value).all (·.oneCell') = true) (y0 : convRows[(k - 1) * 4]? = some x0) (y1 : convRows[(k - 1) * 4 + 1]? = some x1) (y2 : convRows[(k - 1) * 4 + 2]? = some x2) (y3 : convRows[(k - 1) * 4 + 3]? = some x3) :
    Calls Tryz.prog 84 #[.int .i64 k] w fun e w' => e = .returned (.tuple #[.agg (convAt k), .bool true]) ∧ Below w.heap.size w w' := by
  have Y0 := Lib.hid y0
  have Y1 := Lib.hid y1
  have Y2 := Lib.hid y2
  have Y3 := Lib.hid y3
  have HX := Lib.hid hx
  have HO := Lib.hid hone
  clear hone y0 y1 y2 y3 hx
  have t1 : decide ((k : Int) < 1) = false := decide_eq_false (by omega)
  have t2 : decide (12 < (k : Int)) = false := decide_eq_false (by omega)
  go_enter Tryz.func84, Tryz.ntmps84
  go_wp2_with (first
    | (go_at_call 81; refine (table_at _).mono ?_; rintro e w1 ⟨g, cap, rfl, hown, hb⟩; have hH : w1.heap[w.heap.size]? = some (.cells convZ 90 (0, 0)) := (hb.block _ (by simp)).trans (heap_last _ _); have c0 := owns_cell hown _ _ Y0.out; have c1 := owns_cell hown _ _ Y1.out; have c2 := owns_cell hown _ _ Y2.out; have c3 := owns_cell hown _ _ Y3.out; clear hown)
    | (refine wpList_store_row rfl 90 (.tmp 2) (.tmp 19) rfl w.heap.size #[x0, x1, x2, x3] rfl rfl 90 convZ hH (by kernel_rfl) rfl HO.out ?_))
  exact bodyPost_ret (results_row_tmp rfl _ _ w.heap.size 90 #[x0, x1, x2, x3] (0, 0) _ rfl (setRow_heap _ _ _ _ _ _ hH) Tryz.underlying90 rfl (by kernel_rfl)) rfl ⟨by rw [HX.out]; rfl, below_setRow (((Below.refl _ w).alloc (Nat.le_refl _) _).trans (hb.mono (by simp))) (Nat.le_refl _) _⟩

/-- What the table says of number n: from, to, sure, what it does, whether it is there. -/
def convD (n : Int) : Int × Int × Bool × Value × Bool :=
  if n = 1 then (1, 2, false, .func (.func 112) #[] #[], true) else
  if n = 2 then (2, 1, false, .func (.func 115) #[] #[], true) else
  if n = 3 then (1, 4, true, .func (.func 117) #[] #[], true) else
  if n = 4 then (2, 4, true, .func (.func 120) #[] #[], true) else
  if n = 5 then (4, 1, false, .func (.func 122) #[] #[], true) else
  if n = 6 then (4, 2, false, .func (.func 125) #[] #[], true) else
  if n = 7 then (3, 4, true, .func (.func 129) #[] #[], true) else
  if n = 8 then (4, 3, false, .func (.func 131) #[] #[], true) else
  if n = 9 then (3, 1, true, .func (.func 132) #[] #[], true) else
  if n = 10 then (1, 3, false, .func (.func 133) #[] #[], true) else
  if n = 11 then (4, 5, true, .func (.func 135) #[] #[], true) else
  if n = 12 then (5, 4, false, .func (.func 136) #[] #[], true) else (0, 0, false, .nilFunc, false)
def OfIs (n : Int) (d : Int × Int × Bool × Value × Bool) : Prop := ∀ w, Calls Tryz.prog 84 #[.int .i64 n] w fun e w' => e = .returned (.tuple #[.agg #[.int .i64 d.1, .int .i64 d.2.1, .bool d.2.2.1, d.2.2.2.1], .bool d.2.2.2.2]) ∧ Below w.heap.size w w'
theorem convD_no (n : Int) (h : n < 1 ∨ 12 < n) : convD n = (0, 0, false, .nilFunc, false) := by
  unfold convD
  rw [if_neg (by omega)]
  rw [if_neg (by omega)]
  rw [if_neg (by omega)]
  rw [if_neg (by omega)]
  rw [if_neg (by omega)]
  rw [if_neg (by omega)]
  rw [if_neg (by omega)]
  rw [if_neg (by omega)]
  rw [if_neg (by omega)]
  rw [if_neg (by omega)]
  rw [if_neg (by omega)]
  rw [if_neg (by omega)]
theorem of_is (n : Int) : OfIs n (convD n) := by
  by_cases h : n < 1 ∨ 12 < n
  · rw [convD_no n h]
    exact fun w => of_no n w h
  · obtain ⟨k, rfl⟩ : ∃ k : Nat, n = k := ⟨n.toNat, by omega⟩
    have h1 : 1 ≤ k := by omega
    have h2 : k ≤ 12 := by omega
    clear h
    match k, h1, h2 with
    | 1, h1, h2 => exact fun w => of_yes 1 w h1 h2 _ _ _ _ rfl (by kernel_rfl) rfl rfl rfl rfl
    | 2, h1, h2 => exact fun w => of_yes 2 w h1 h2 _ _ _ _ rfl (by kernel_rfl) rfl rfl rfl rfl
    | 3, h1, h2 => exact fun w => of_yes 3 w h1 h2 _ _ _ _ rfl (by kernel_rfl) rfl rfl rfl rfl
    | 4, h1, h2 => exact fun w => of_yes 4 w h1 h2 _ _ _ _ rfl (by kernel_rfl) rfl rfl rfl rfl
    | 5, h1, h2 => exact fun w => of_yes 5 w h1 h2 _ _ _ _ rfl (by kernel_rfl) rfl rfl rfl rfl
    | 6, h1, h2 => exact fun w => of_yes 6 w h1 h2 _ _ _ _ rfl (by kernel_rfl) rfl rfl rfl rfl
    | 7, h1, h2 => exact fun w => of_yes 7 w h1 h2 _ _ _ _ rfl (by kernel_rfl) rfl rfl rfl rfl
    | 8, h1, h2 => exact fun w => of_yes 8 w h1 h2 _ _ _ _ rfl (by kernel_rfl) rfl rfl rfl rfl
    | 9, h1, h2 => exact fun w => of_yes 9 w h1 h2 _ _ _ _ rfl (by kernel_rfl) rfl rfl rfl rfl
    | 10, h1, h2 => exact fun w => of_yes 10 w h1 h2 _ _ _ _ rfl (by kernel_rfl) rfl rfl rfl rfl
    | 11, h1, h2 => exact fun w => of_yes 11 w h1 h2 _ _ _ _ rfl (by kernel_rfl) rfl rfl rfl rfl
    | 12, h1, h2 => exact fun w => of_yes 12 w h1 h2 _ _ _ _ rfl (by kernel_rfl) rfl rfl rfl rfl
theorem convD_one (n : Int) : (#[.int .i64 (convD n).1, .int .i64 (convD n).2.1, .bool (convD n).2.2.1, (convD n).2.2.2.1] : Array Value).all (·.oneCell') = true := by
  by_cases h : n < 1 ∨ 12 < n
  · rw [convD_no n h]
    kernel_rfl
  · obtain ⟨k, rfl⟩ : ∃ k : Nat, n = k := ⟨n.toNat, by omega⟩
    have h1 : 1 ≤ k := by omega
    have h2 : k ≤ 12 := by omega
    clear h
    match k, h1, h2 with
    | 1, h1, h2 => show _ = true; kernel_rfl
    | 2, h1, h2 => show _ = true; kernel_rfl
    | 3, h1, h2 => show _ = true; kernel_rfl
    | 4, h1, h2 => show _ = true; kernel_rfl
    | 5, h1, h2 => show _ = true; kernel_rfl
    | 6, h1, h2 => show _ = true; kernel_rfl
    | 7, h1, h2 => show _ = true; kernel_rfl
    | 8, h1, h2 => show _ = true; kernel_rfl
    | 9, h1, h2 => show _ = true; kernel_rfl
    | 10, h1, h2 => show _ = true; kernel_rfl
    | 11, h1, h2 => show _ = true; kernel_rfl
    | 12, h1, h2 => show _ = true; kernel_rfl
set_option maxRecDepth 100000 in
set_option maxHeartbeats 1000000 in
theorem from_of (n : Int) (d : Int × Int × Bool × Value × Bool) (hof : OfIs n d) (ho : (#[.int .i64 d.1, .int .i64 d.2.1, .bool d.2.2.1, d.2.2.2.1] : Array Value).all (·.oneCell') = true) (w : World) : Calls Tryz.prog 70 #[.int .i64 n] w fun e w' => e = .returned (.int .i64 d.1) ∧ Below w.heap.size w w' := by
  have HO := Lib.hid ho
  clear ho
  go_enter Tryz.func70, Tryz.ntmps70
  go_wp2_with (first
    | (go_at_call 84; refine (hof _).mono ?_; rintro e w1 ⟨rfl, hb⟩; have hZ := heap_last w1 (.cells #[.int .i64 0, .int .i64 0, .bool false, .nilFunc] 90))
    | (refine wpList_store_row rfl 90 (.tmp 3) (.tmp 8) rfl w1.heap.size #[.int .i64 d.1, .int .i64 d.2.1, .bool d.2.2.1, d.2.2.2.1] rfl rfl 90 _ hZ (by kernel_rfl) rfl HO.out ?_; have hR := heap_row w1 #[.int .i64 0, .int .i64 0, .bool false, .nilFunc] #[.int .i64 d.1, .int .i64 d.2.1, .bool d.2.2.1, d.2.2.2.1] 90; have hB := below_row hb (.cells #[.int .i64 0, .int .i64 0, .bool false, .nilFunc] 90) #[.int .i64 d.1, .int .i64 d.2.1, .bool d.2.2.1, d.2.2.2.1]; generalize (w1.alloc (.cells #[.int .i64 0, .int .i64 0, .bool false, .nilFunc] 90)).setRow w1.heap.size #[.int .i64 d.1, .int .i64 d.2.1, .bool d.2.2.1, d.2.2.2.1] = w2 at hR hB ⊢; have hc : w2.cell? ⟨w1.heap.size, 0, none⟩ = some (.int .i64 d.1) := cell_of_heap hR 0 _ rfl))
  go_ret
  exact ⟨rfl, hB⟩
set_option maxRecDepth 100000 in
set_option maxHeartbeats 1000000 in
theorem to_of (n : Int) (d : Int × Int × Bool × Value × Bool) (hof : OfIs n d) (ho : (#[.int .i64 d.1, .int .i64 d.2.1, .bool d.2.2.1, d.2.2.2.1] : Array Value).all (·.oneCell') = true) (w : World) : Calls Tryz.prog 71 #[.int .i64 n] w fun e w' => e = .returned (.int .i64 d.2.1) ∧ Below w.heap.size w w' := by
  have HO := Lib.hid ho
  clear ho
  go_enter Tryz.func71, Tryz.ntmps71
  go_wp2_with (first
    | (go_at_call 84; refine (hof _).mono ?_; rintro e w1 ⟨rfl, hb⟩; have hZ := heap_last w1 (.cells #[.int .i64 0, .int .i64 0, .bool false, .nilFunc] 90))
    | (refine wpList_store_row rfl 90 (.tmp 3) (.tmp 8) rfl w1.heap.size #[.int .i64 d.1, .int .i64 d.2.1, .bool d.2.2.1, d.2.2.2.1] rfl rfl 90 _ hZ (by kernel_rfl) rfl HO.out ?_; have hR := heap_row w1 #[.int .i64 0, .int .i64 0, .bool false, .nilFunc] #[.int .i64 d.1, .int .i64 d.2.1, .bool d.2.2.1, d.2.2.2.1] 90; have hB := below_row hb (.cells #[.int .i64 0, .int .i64 0, .bool false, .nilFunc] 90) #[.int .i64 d.1, .int .i64 d.2.1, .bool d.2.2.1, d.2.2.2.1]; generalize (w1.alloc (.cells #[.int .i64 0, .int .i64 0, .bool false, .nilFunc] 90)).setRow w1.heap.size #[.int .i64 d.1, .int .i64 d.2.1, .bool d.2.2.1, d.2.2.2.1] = w2 at hR hB ⊢; have hc : w2.cell? ⟨w1.heap.size, 1, none⟩ = some (.int .i64 d.2.1) := cell_of_heap hR 1 _ rfl))
  go_ret
  exact ⟨rfl, hB⟩
/-- The kinds of the twelve conversions. -/
def ftL : List (Int × Int) := [(1, 2), (2, 1), (1, 4), (2, 4), (4, 1), (4, 2), (3, 4), (4, 3), (3, 1), (1, 3), (4, 5), (5, 4)]
def betwL (a b : Int) : Nat → List (Int × Int) → Int
  | _, [] => 0
  | j, x :: r => if x.1 = a ∧ x.2 = b then ((j + 1 : Nat) : Int) else betwL a b (j + 1) r
def between (a b : Int) : Int := betwL a b 0 ftL
theorem row_at (j : Nat) (h : j < 12) : ∃ x : Int × Int, ∃ s d, ftL.drop j = x :: ftL.drop (j + 1) ∧ convRows[j * 4]? = some (.int .i64 x.1) ∧ convRows[j * 4 + 1]? = some (.int .i64 x.2) ∧ convRows[j * 4 + 2]? = some (.bool s) ∧ convRows[j * 4 + 3]? = some d ∧ (#[.int .i64 x.1, .int .i64 x.2, .bool s, d] : Array Value).all (·.oneCell') = true := by
  match j, h with
  | 0, h => exact ⟨_, _, _, rfl, rfl, rfl, rfl, rfl, by kernel_rfl⟩
  | 1, h => exact ⟨_, _, _, rfl, rfl, rfl, rfl, rfl, by kernel_rfl⟩
  | 2, h => exact ⟨_, _, _, rfl, rfl, rfl, rfl, rfl, by kernel_rfl⟩
  | 3, h => exact ⟨_, _, _, rfl, rfl, rfl, rfl, rfl, by kernel_rfl⟩
  | 4, h => exact ⟨_, _, _, rfl, rfl, rfl, rfl, rfl, by kernel_rfl⟩
  | 5, h => exact ⟨_, _, _, rfl, rfl, rfl, rfl, rfl, by kernel_rfl⟩
  | 6, h => exact ⟨_, _, _, rfl, rfl, rfl, rfl, rfl, by kernel_rfl⟩
  | 7, h => exact ⟨_, _, _, rfl, rfl, rfl, rfl, rfl, by kernel_rfl⟩
  | 8, h => exact ⟨_, _, _, rfl, rfl, rfl, rfl, rfl, by kernel_rfl⟩
  | 9, h => exact ⟨_, _, _, rfl, rfl, rfl, rfl, rfl, by kernel_rfl⟩
  | 10, h => exact ⟨_, _, _, rfl, rfl, rfl, rfl, rfl, by kernel_rfl⟩
  | 11, h => exact ⟨_, _, _, rfl, rfl, rfl, rfl, rfl, by kernel_rfl⟩
set_option maxRecDepth 100000 in
set_option maxHeartbeats 2000000 in
theorem between_any (a b : Int) (w : World) : Calls Tryz.prog 72 #[.int .i64 a, .int .i64 b] w fun e w' => e = .returned (.int .i64 (between a b)) ∧ Below w.heap.size w w' := by
  go_enter Tryz.func72, Tryz.ntmps72
  go_wp2_with (go_at_call 81; refine (table_at _).mono ?_; rintro e w1 ⟨g, cap, rfl, hown, hb⟩)
  have hg : g < w1.heap.size := by
    rcases hown.2 with ⟨e1, _⟩ | ⟨g', cap', cur, e1, _, hh, _⟩
    · cases e1
    · cases e1
      exact heap_lt hh
  have hT : ∀ j u, convRows[j]? = some u → w1.cell? ⟨g, j, none⟩ = some u := fun j u hu => owns_cell hown j u hu
  have HT := Lib.hid hT
  have hb' : Below w.heap.size w w1 := hb
  clear hT hown hb
  go_loopw [9] (fun i wr => ∃ j : Nat, j ≤ 12 ∧ i = .int .i64 j ∧ betwL a b j (ftL.drop j) = between a b ∧ Below w1.heap.size w1 wr) (fun i _ => 12 - (intOf i).toNat)
  case atStart => exact ⟨0, by omega, rfl, rfl, Below.refl _ _⟩
  case round =>
    obtain ⟨j, hj, rfl, hrel, hbw⟩ := hrel
    have HR := Lib.hid hrel
    clear hrel
    by_cases hlt : j < 12
    · obtain ⟨x, s, d, hd, y0, y1, y2, y3, ho⟩ := row_at j hlt
      have c0 := (hbw.cell (p := ⟨g, j * 4, none⟩) hg).trans (HT.out _ _ y0)
      have c1 := (hbw.cell (p := ⟨g, j * 4 + 1, none⟩) hg).trans (HT.out _ _ y1)
      have c2 := (hbw.cell (p := ⟨g, j * 4 + 2, none⟩) hg).trans (HT.out _ _ y2)
      have c3 := (hbw.cell (p := ⟨g, j * 4 + 3, none⟩) hg).trans (HT.out _ _ y3)
      have HO := Lib.hid ho
      have HD := Lib.hid hd
      have hZ := heap_last wr (.cells #[.int .i64 0, .int .i64 0, .bool false, .nilFunc] 90)
      clear y0 y1 y2 y3 ho hd
      by_cases e1 : (x.1 == a) = true
      · by_cases e2 : (x.2 == b) = true
        · as_aux_lemma =>
          go_wp2_with (refine wpList_store_row rfl 90 (.tmp 6) (.tmp 13) rfl wr.heap.size #[.int .i64 x.1, .int .i64 x.2, .bool s, d] rfl rfl 90 _ hZ (by kernel_rfl) rfl HO.out ?_; have hR := heap_row wr #[.int .i64 0, .int .i64 0, .bool false, .nilFunc] #[.int .i64 x.1, .int .i64 x.2, .bool s, d] 90; have hB := below_row hbw (.cells #[.int .i64 0, .int .i64 0, .bool false, .nilFunc] 90) #[.int .i64 x.1, .int .i64 x.2, .bool s, d]; generalize (wr.alloc (.cells #[.int .i64 0, .int .i64 0, .bool false, .nilFunc] 90)).setRow wr.heap.size #[.int .i64 x.1, .int .i64 x.2, .bool s, d] = w2 at hR hB ⊢; have z0 : w2.cell? ⟨wr.heap.size, 0, none⟩ = some (.int .i64 x.1) := cell_of_heap hR 0 _ rfl; have z1 : w2.cell? ⟨wr.heap.size, 1, none⟩ = some (.int .i64 x.2) := cell_of_heap hR 1 _ rfl)
          go_ret
          have e : betwL a b j (ftL.drop j) = ((j + 1 : Nat) : Int) := by rw [HD.out]; unfold betwL; rw [if_pos ⟨beq_iff_eq.1 e1, beq_iff_eq.1 e2⟩]
          exact ⟨by rw [← HR.out, e]; rfl, hb'.trans (hB.mono hb'.size)⟩
        · as_aux_lemma =>
          replace e2 : (x.2 == b) = false := by simpa using e2
          go_wp2_with (refine wpList_store_row rfl 90 (.tmp 6) (.tmp 13) rfl wr.heap.size #[.int .i64 x.1, .int .i64 x.2, .bool s, d] rfl rfl 90 _ hZ (by kernel_rfl) rfl HO.out ?_; have hR := heap_row wr #[.int .i64 0, .int .i64 0, .bool false, .nilFunc] #[.int .i64 x.1, .int .i64 x.2, .bool s, d] 90; have hB := below_row hbw (.cells #[.int .i64 0, .int .i64 0, .bool false, .nilFunc] 90) #[.int .i64 x.1, .int .i64 x.2, .bool s, d]; generalize (wr.alloc (.cells #[.int .i64 0, .int .i64 0, .bool false, .nilFunc] 90)).setRow wr.heap.size #[.int .i64 x.1, .int .i64 x.2, .bool s, d] = w2 at hR hB ⊢; have z0 : w2.cell? ⟨wr.heap.size, 0, none⟩ = some (.int .i64 x.1) := cell_of_heap hR 0 _ rfl; have z1 : w2.cell? ⟨wr.heap.size, 1, none⟩ = some (.int .i64 x.2) := cell_of_heap hR 1 _ rfl)
          go_roundw
          case rel =>
            have e : betwL a b j (ftL.drop j) = betwL a b (j + 1) (ftL.drop (j + 1)) := by rw [HD.out]; conv => lhs; unfold betwL; rw [if_neg (fun q => by have := beq_iff_eq.2 q.2; rw [e2] at this; cases this)]
            exact ⟨j + 1, by omega, by go_num, by rw [← e]; exact HR.out, hB⟩
          case measure => simp [intOf]; omega
      · as_aux_lemma =>
        replace e1 : (x.1 == a) = false := by simpa using e1
        go_wp2_with (refine wpList_store_row rfl 90 (.tmp 6) (.tmp 13) rfl wr.heap.size #[.int .i64 x.1, .int .i64 x.2, .bool s, d] rfl rfl 90 _ hZ (by kernel_rfl) rfl HO.out ?_; have hR := heap_row wr #[.int .i64 0, .int .i64 0, .bool false, .nilFunc] #[.int .i64 x.1, .int .i64 x.2, .bool s, d] 90; have hB := below_row hbw (.cells #[.int .i64 0, .int .i64 0, .bool false, .nilFunc] 90) #[.int .i64 x.1, .int .i64 x.2, .bool s, d]; generalize (wr.alloc (.cells #[.int .i64 0, .int .i64 0, .bool false, .nilFunc] 90)).setRow wr.heap.size #[.int .i64 x.1, .int .i64 x.2, .bool s, d] = w2 at hR hB ⊢; have z0 : w2.cell? ⟨wr.heap.size, 0, none⟩ = some (.int .i64 x.1) := cell_of_heap hR 0 _ rfl; have z1 : w2.cell? ⟨wr.heap.size, 1, none⟩ = some (.int .i64 x.2) := cell_of_heap hR 1 _ rfl)
        go_roundw
        case rel =>
          have e : betwL a b j (ftL.drop j) = betwL a b (j + 1) (ftL.drop (j + 1)) := by rw [HD.out]; conv => lhs; unfold betwL; rw [if_neg (fun q => by have := beq_iff_eq.2 q.1; rw [e1] at this; cases this)]
          exact ⟨j + 1, by omega, by go_num, by rw [← e]; exact HR.out, hB⟩
        case measure => simp [intOf]; omega
    · as_aux_lemma =>
      have e12 : j = 12 := by omega
      subst e12
      go_wp2
      go_ret
      exact ⟨by rw [← HR.out]; rfl, hb'.trans (hbw.mono hb'.size)⟩
end Go.Proofs.YtpmebnkjcekmmaaGreatDoor
