/- conv.of, From, To, Sure and Between answer the table, for every number and every pair of kinds. -/
import Derived.Test.YthfhkfebkpdkcaaGreatDoorCb
namespace Go.Proofs.YthfhkfebkpdkcaaGreatDoor
open Go.RowKit
theorem results_row_tmp {P : Program} {fn : Func} {p u : Tmp} {ty : TypeId} (h : fn.results = #[.cell p ty, .tmp u]) (tmps : Array Value) (w : World) (g : Nat) (t : TypeId) (cs : Array Value) (fr : Nat × Nat) (d : TypeDesc)
    (hp : tmps.getD p undef = .pointer (some ⟨g, 0, none⟩)) (hg : w.heap[g]? = some (.cells cs t fr))
    (hu : P.underlying ty = some d) (hd : (match d with | .struct _ | .array _ _ => true | _ => false) = true) (hi : (P.info? ty).map (·.size) = some cs.size) :
    (results fn tmps).run P w = .ok (.tuple #[.agg cs, tmps.getD u undef]) w := by
  have hp' : tmps[p]?.getD undef = .pointer (some ⟨g, 0, none⟩) := by simpa using hp
  simp [results, h, hp', asAddr, run_loadVar_row w g t ty cs fr d hg hu hd hi]
/-- The cells of conversion k. -/
def convAt (k : Nat) : Array Value := ((convRows.drop ((k - 1) * 4)).take 4).toArray
def convZ : Array Value := #[.int .i64 0, .int .i64 0, .bool false, .nilFunc]

set_option maxRecDepth 100000 in
set_option maxHeartbeats 2000000 in
theorem of_no (n : Int) (w : World) (h : n < 1 ∨ 12 < n) : Calls Tryz.prog 27 #[.int .i64 n] w fun e w' => e = .returned (.tuple #[.agg convZ, .bool false]) ∧ Below w.heap.size w w' := by
  rcases h with h | h
  · have t1 : decide (n < 1) = true := decide_eq_true h
    go_enter Tryz.func27, Tryz.ntmps27
    go_wp2_with (first
      | (go_at_call 34; refine (table_at _).mono ?_; rintro e w1 ⟨g, cap, rfl, hown, hb⟩; have hH : w1.heap[w.heap.size]? = some (.cells convZ 47 (0, 0)) := (hb.block _ (by simp)).trans (heap_last _ _); clear hown)
      | (refine wpList_store_row rfl 47 (.tmp 2) (.tmp 14) rfl w.heap.size convZ rfl rfl 47 convZ hH (by kernel_rfl) rfl (by kernel_rfl) ?_))
    exact bodyPost_ret (results_row_tmp rfl _ _ w.heap.size 47 convZ (0, 0) _ rfl (setRow_heap _ _ _ _ _ _ hH) Tryz.underlying47 rfl (by kernel_rfl)) rfl ⟨rfl, below_setRow (((Below.refl _ w).alloc (Nat.le_refl _) _).trans (hb.mono (by simp))) (Nat.le_refl _) _⟩
  · have t1 : decide (n < 1) = false := decide_eq_false (by omega)
    have t2 : decide (12 < n) = true := decide_eq_true h
    go_enter Tryz.func27, Tryz.ntmps27
    go_wp2_with (first
      | (go_at_call 34; refine (table_at _).mono ?_; rintro e w1 ⟨g, cap, rfl, hown, hb⟩; have hH : w1.heap[w.heap.size]? = some (.cells convZ 47 (0, 0)) := (hb.block _ (by simp)).trans (heap_last _ _); clear hown)
      | (refine wpList_store_row rfl 47 (.tmp 2) (.tmp 14) rfl w.heap.size convZ rfl rfl 47 convZ hH (by kernel_rfl) rfl (by kernel_rfl) ?_))
    exact bodyPost_ret (results_row_tmp rfl _ _ w.heap.size 47 convZ (0, 0) _ rfl (setRow_heap _ _ _ _ _ _ hH) Tryz.underlying47 rfl (by kernel_rfl)) rfl ⟨rfl, below_setRow (((Below.refl _ w).alloc (Nat.le_refl _) _).trans (hb.mono (by simp))) (Nat.le_refl _) _⟩

set_option maxRecDepth 100000 in
set_option maxHeartbeats 2000000 in
theorem of_yes (k : Nat) (w : World) (h1 : 1 ≤ k) (h2 : k ≤ 12) (x0 x1 x2 x3 : Value) (hx : convAt k = #[x0, x1, x2, x3])
    (hone : (#[x0, x1, x2, x3] : Array Value).all (·.oneCell') = true) (y0 : convRows[(k - 1) * 4]? = some x0) (y1 : convRows[(k - 1) * 4 + 1]? = some x1) (y2 : convRows[(k - 1) * 4 + 2]? = some x2) (y3 : convRows[(k - 1) * 4 + 3]? = some x3) :
    Calls Tryz.prog 27 #[.int .i64 k] w fun e w' => e = .returned (.tuple #[.agg (convAt k), .bool true]) ∧ Below w.heap.size w w' := by
  have Y0 := Lib.hid y0
  have Y1 := Lib.hid y1
  have Y2 := Lib.hid y2
  have Y3 := Lib.hid y3
  have HX := Lib.hid hx
  have HO := Lib.hid hone
  clear hone y0 y1 y2 y3 hx
  have t1 : decide ((k : Int) < 1) = false := decide_eq_false (by omega)
  have t2 : decide (12 < (k : Int)) = false := decide_eq_false (by omega)
  go_enter Tryz.func27, Tryz.ntmps27
  go_wp2_with (first
    | (go_at_call 34; refine (table_at _).mono ?_; rintro e w1 ⟨g, cap, rfl, hown, hb⟩; have hH : w1.heap[w.heap.size]? = some (.cells convZ 47 (0, 0)) := (hb.block _ (by simp)).trans (heap_last _ _); have c0 := owns_cell hown _ _ Y0.out; have c1 := owns_cell hown _ _ Y1.out; have c2 := owns_cell hown _ _ Y2.out; have c3 := owns_cell hown _ _ Y3.out; clear hown)
    | (refine wpList_store_row rfl 47 (.tmp 2) (.tmp 19) rfl w.heap.size #[x0, x1, x2, x3] rfl rfl 47 convZ hH (by kernel_rfl) rfl HO.out ?_))
  exact bodyPost_ret (results_row_tmp rfl _ _ w.heap.size 47 #[x0, x1, x2, x3] (0, 0) _ rfl (setRow_heap _ _ _ _ _ _ hH) Tryz.underlying47 rfl (by kernel_rfl)) rfl ⟨by rw [HX.out]; rfl, below_setRow (((Below.refl _ w).alloc (Nat.le_refl _) _).trans (hb.mono (by simp))) (Nat.le_refl _) _⟩

/-- What the table says of number n: from, to, sure, what it does, whether it is there. -/
def convD (n : Int) : Int × Int × Bool × Value × Bool :=
  if n = 1 then (1, 2, false, .func (.func 66) #[] #[], true) else
  if n = 2 then (2, 1, false, .func (.func 68) #[] #[], true) else
  if n = 3 then (1, 4, true, .func (.func 70) #[] #[], true) else
  if n = 4 then (2, 4, true, .func (.func 73) #[] #[], true) else
  if n = 5 then (4, 1, false, .func (.func 75) #[] #[], true) else
  if n = 6 then (4, 2, false, .func (.func 78) #[] #[], true) else
  if n = 7 then (3, 4, true, .func (.func 82) #[] #[], true) else
  if n = 8 then (4, 3, false, .func (.func 84) #[] #[], true) else
  if n = 9 then (3, 1, true, .func (.func 85) #[] #[], true) else
  if n = 10 then (1, 3, false, .func (.func 86) #[] #[], true) else
  if n = 11 then (4, 5, true, .func (.func 88) #[] #[], true) else
  if n = 12 then (5, 4, false, .func (.func 89) #[] #[], true) else (0, 0, false, .nilFunc, false)
def OfIs (n : Int) (d : Int × Int × Bool × Value × Bool) : Prop := ∀ w, Calls Tryz.prog 27 #[.int .i64 n] w fun e w' => e = .returned (.tuple #[.agg #[.int .i64 d.1, .int .i64 d.2.1, .bool d.2.2.1, d.2.2.2.1], .bool d.2.2.2.2]) ∧ Below w.heap.size w w'
theorem convD_no (n : Int) (h : n < 1 ∨ 12 < n) : convD n = (0, 0, false, .nilFunc, false) := by
  unfold convD
  rw [if_neg (by omega)]
  rw [if_neg (by omega)]
  rw [if_neg (by omega)]
  rw [if_neg (by omega)]
  rw [if_neg (by omega)]
  rw [if_neg (by omega)]
  rw [if_neg (by omega)]
  rw [if_neg (by omega)]
  rw [if_neg (by omega)]
  rw [if_neg (by omega)]
  rw [if_neg (by omega)]
  rw [if_neg (by omega)]
theorem of_is (n : Int) : OfIs n (convD n) := by
  by_cases h : n < 1 ∨ 12 < n
  · rw [convD_no n h]
    exact fun w => of_no n w h
  · obtain ⟨k, rfl⟩ : ∃ k : Nat, n = k := ⟨n.toNat, by omega⟩
    have h1 : 1 ≤ k := by omega
    have h2 : k ≤ 12 := by omega
    clear h
    match k, h1, h2 with
    | 1, h1, h2 => exact fun w => of_yes 1 w h1 h2 _ _ _ _ rfl (by kernel_rfl) rfl rfl rfl rfl
    | 2, h1, h2 => exact fun w => of_yes 2 w h1 h2 _ _ _ _ rfl (by kernel_rfl) rfl rfl rfl rfl
    | 3, h1, h2 => exact fun w => of_yes 3 w h1 h2 _ _ _ _ rfl (by kernel_rfl) rfl rfl rfl rfl
    | 4, h1, h2 => exact fun w => of_yes 4 w h1 h2 _ _ _ _ rfl (by kernel_rfl) rfl rfl rfl rfl
    | 5, h1, h2 => exact fun w => of_yes 5 w h1 h2 _ _ _ _ rfl (by kernel_rfl) rfl rfl rfl rfl
    | 6, h1, h2 => exact fun w => of_yes 6 w h1 h2 _ _ _ _ rfl (by kernel_rfl) rfl rfl rfl rfl
    | 7, h1, h2 => exact fun w => of_yes 7 w h1 h2 _ _ _ _ rfl (by kernel_rfl) rfl rfl rfl rfl
    | 8, h1, h2 => exact fun w => of_yes 8 w h1 h2 _ _ _ _ rfl (by kernel_rfl) rfl rfl rfl rfl
    | 9, h1, h2 => exact fun w => of_yes 9 w h1 h2 _ _ _ _ rfl (by kernel_rfl) rfl rfl rfl rfl
    | 10, h1, h2 => exact fun w => of_yes 10 w h1 h2 _ _ _ _ rfl (by kernel_rfl) rfl rfl rfl rfl
    | 11, h1, h2 => exact fun w => of_yes 11 w h1 h2 _ _ _ _ rfl (by kernel_rfl) rfl rfl rfl rfl
    | 12, h1, h2 => exact fun w => of_yes 12 w h1 h2 _ _ _ _ rfl (by kernel_rfl) rfl rfl rfl rfl
theorem convD_one (n : Int) : (#[.int .i64 (convD n).1, .int .i64 (convD n).2.1, .bool (convD n).2.2.1, (convD n).2.2.2.1] : Array Value).all (·.oneCell') = true := by
  by_cases h : n < 1 ∨ 12 < n
  · rw [convD_no n h]
    kernel_rfl
  · obtain ⟨k, rfl⟩ : ∃ k : Nat, n = k := ⟨n.toNat, by omega⟩
    have h1 : 1 ≤ k := by omega
    have h2 : k ≤ 12 := by omega
    clear h
    match k, h1, h2 with
    | 1, h1, h2 => show _ = true; kernel_rfl
    | 2, h1, h2 => show _ = true; kernel_rfl
    | 3, h1, h2 => show _ = true; kernel_rfl
    | 4, h1, h2 => show _ = true; kernel_rfl
    | 5, h1, h2 => show _ = true; kernel_rfl
    | 6, h1, h2 => show _ = true; kernel_rfl
    | 7, h1, h2 => show _ = true; kernel_rfl
    | 8, h1, h2 => show _ = true; kernel_rfl
    | 9, h1, h2 => show _ = true; kernel_rfl
    | 10, h1, h2 => show _ = true; kernel_rfl
    | 11, h1, h2 => show _ = true; kernel_rfl
    | 12, h1, h2 => show _ = true; kernel_rfl
set_option maxRecDepth 100000 in
set_option maxHeartbeats 1000000 in
theorem from_of (n : Int) (d : Int × Int × Bool × Value × Bool) (hof : OfIs n d) (ho : (#[.int .i64 d.1, .int .i64 d.2.1, .bool d.2.2.1, d.2.2.2.1] : Array Value).all (·.oneCell') = true) (w : World) : Calls Tryz.prog 14 #[.int .i64 n] w fun e w' => e = .returned (.int .i64 d.1) ∧ Below w.heap.size w w' := by
  have HO := Lib.hid ho
  clear ho
  go_enter Tryz.func14, Tryz.ntmps14
  go_wp2_with (first
    | (go_at_call 27; refine (hof _).mono ?_; rintro e w1 ⟨rfl, hb⟩; have hZ := heap_last w1 (.cells #[.int .i64 0, .int .i64 0, .bool false, .nilFunc] 47))
    | (refine wpList_store_row rfl 47 (.tmp 3) (.tmp 8) rfl w1.heap.size #[.int .i64 d.1, .int .i64 d.2.1, .bool d.2.2.1, d.2.2.2.1] rfl rfl 47 _ hZ (by kernel_rfl) rfl HO.out ?_; have hR := heap_row w1 #[.int .i64 0, .int .i64 0, .bool false, .nilFunc] #[.int .i64 d.1, .int .i64 d.2.1, .bool d.2.2.1, d.2.2.2.1] 47; have hB := below_row hb (.cells #[.int .i64 0, .int .i64 0, .bool false, .nilFunc] 47) #[.int .i64 d.1, .int .i64 d.2.1, .bool d.2.2.1, d.2.2.2.1]; generalize (w1.alloc (.cells #[.int .i64 0, .int .i64 0, .bool false, .nilFunc] 47)).setRow w1.heap.size #[.int .i64 d.1, .int .i64 d.2.1, .bool d.2.2.1, d.2.2.2.1] = w2 at hR hB ⊢; have hc : w2.cell? ⟨w1.heap.size, 0, none⟩ = some (.int .i64 d.1) := cell_of_heap hR 0 _ rfl))
  go_ret
  exact ⟨rfl, hB⟩
set_option maxRecDepth 100000 in
set_option maxHeartbeats 1000000 in
theorem to_of (n : Int) (d : Int × Int × Bool × Value × Bool) (hof : OfIs n d) (ho : (#[.int .i64 d.1, .int .i64 d.2.1, .bool d.2.2.1, d.2.2.2.1] : Array Value).all (·.oneCell') = true) (w : World) : Calls Tryz.prog 16 #[.int .i64 n] w fun e w' => e = .returned (.int .i64 d.2.1) ∧ Below w.heap.size w w' := by
  have HO := Lib.hid ho
  clear ho
  go_enter Tryz.func16, Tryz.ntmps16
  go_wp2_with (first
    | (go_at_call 27; refine (hof _).mono ?_; rintro e w1 ⟨rfl, hb⟩; have hZ := heap_last w1 (.cells #[.int .i64 0, .int .i64 0, .bool false, .nilFunc] 47))
    | (refine wpList_store_row rfl 47 (.tmp 3) (.tmp 8) rfl w1.heap.size #[.int .i64 d.1, .int .i64 d.2.1, .bool d.2.2.1, d.2.2.2.1] rfl rfl 47 _ hZ (by kernel_rfl) rfl HO.out ?_; have hR := heap_row w1 #[.int .i64 0, .int .i64 0, .bool false, .nilFunc] #[.int .i64 d.1, .int .i64 d.2.1, .bool d.2.2.1, d.2.2.2.1] 47; have hB := below_row hb (.cells #[.int .i64 0, .int .i64 0, .bool false, .nilFunc] 47) #[.int .i64 d.1, .int .i64 d.2.1, .bool d.2.2.1, d.2.2.2.1]; generalize (w1.alloc (.cells #[.int .i64 0, .int .i64 0, .bool false, .nilFunc] 47)).setRow w1.heap.size #[.int .i64 d.1, .int .i64 d.2.1, .bool d.2.2.1, d.2.2.2.1] = w2 at hR hB ⊢; have hc : w2.cell? ⟨w1.heap.size, 1, none⟩ = some (.int .i64 d.2.1) := cell_of_heap hR 1 _ rfl))
  go_ret
  exact ⟨rfl, hB⟩
set_option maxRecDepth 100000 in
set_option maxHeartbeats 1000000 in
theorem sure_of (n : Int) (d : Int × Int × Bool × Value × Bool) (hof : OfIs n d) (ho : (#[.int .i64 d.1, .int .i64 d.2.1, .bool d.2.2.1, d.2.2.2.1] : Array Value).all (·.oneCell') = true) (w : World) : Calls Tryz.prog 15 #[.int .i64 n] w fun e w' => e = .returned (.bool d.2.2.1) ∧ Below w.heap.size w w' := by
  have HO := Lib.hid ho
  clear ho
  go_enter Tryz.func15, Tryz.ntmps15
  go_wp2_with (first
    | (go_at_call 27; refine (hof _).mono ?_; rintro e w1 ⟨rfl, hb⟩; have hZ := heap_last w1 (.cells #[.int .i64 0, .int .i64 0, .bool false, .nilFunc] 47))
    | (refine wpList_store_row rfl 47 (.tmp 3) (.tmp 8) rfl w1.heap.size #[.int .i64 d.1, .int .i64 d.2.1, .bool d.2.2.1, d.2.2.2.1] rfl rfl 47 _ hZ (by kernel_rfl) rfl HO.out ?_; have hR := heap_row w1 #[.int .i64 0, .int .i64 0, .bool false, .nilFunc] #[.int .i64 d.1, .int .i64 d.2.1, .bool d.2.2.1, d.2.2.2.1] 47; have hB := below_row hb (.cells #[.int .i64 0, .int .i64 0, .bool false, .nilFunc] 47) #[.int .i64 d.1, .int .i64 d.2.1, .bool d.2.2.1, d.2.2.2.1]; generalize (w1.alloc (.cells #[.int .i64 0, .int .i64 0, .bool false, .nilFunc] 47)).setRow w1.heap.size #[.int .i64 d.1, .int .i64 d.2.1, .bool d.2.2.1, d.2.2.2.1] = w2 at hR hB ⊢; have hc : w2.cell? ⟨w1.heap.size, 2, none⟩ = some (.bool d.2.2.1) := cell_of_heap hR 2 _ rfl))
  go_ret
  exact ⟨rfl, hB⟩

/-- The kinds of the twelve conversions. -/
def ftL : List (Int × Int) := [(1, 2), (2, 1), (1, 4), (2, 4), (4, 1), (4, 2), (3, 4), (4, 3), (3, 1), (1, 3), (4, 5), (5, 4)]
def betwL (a b : Int) : Nat → List (Int × Int) → Int
  | _, [] => 0
  | j, x :: r => if x.1 = a ∧ x.2 = b then ((j + 1 : Nat) : Int) else betwL a b (j + 1) r
def between (a b : Int) : Int := betwL a b 0 ftL
theorem row_at (j : Nat) (h : j < 12) : ∃ x : Int × Int, ∃ s d, ftL.drop j = x :: ftL.drop (j + 1) ∧ convRows[j * 4]? = some (.int .i64 x.1) ∧ convRows[j * 4 + 1]? = some (.int .i64 x.2) ∧ convRows[j * 4 + 2]? = some (.bool s) ∧ convRows[j * 4 + 3]? = some d ∧ (#[.int .i64 x.1, .int .i64 x.2, .bool s, d] : Array Value).all (·.oneCell') = true := by
  match j, h with
  | 0, h => exact ⟨_, _, _, rfl, rfl, rfl, rfl, rfl, by kernel_rfl⟩
  | 1, h => exact ⟨_, _, _, rfl, rfl, rfl, rfl, rfl, by kernel_rfl⟩
  | 2, h => exact ⟨_, _, _, rfl, rfl, rfl, rfl, rfl, by kernel_rfl⟩
  | 3, h => exact ⟨_, _, _, rfl, rfl, rfl, rfl, rfl, by kernel_rfl⟩
  | 4, h => exact ⟨_, _, _, rfl, rfl, rfl, rfl, rfl, by kernel_rfl⟩
  | 5, h => exact ⟨_, _, _, rfl, rfl, rfl, rfl, rfl, by kernel_rfl⟩
  | 6, h => exact ⟨_, _, _, rfl, rfl, rfl, rfl, rfl, by kernel_rfl⟩
  | 7, h => exact ⟨_, _, _, rfl, rfl, rfl, rfl, rfl, by kernel_rfl⟩
  | 8, h => exact ⟨_, _, _, rfl, rfl, rfl, rfl, rfl, by kernel_rfl⟩
  | 9, h => exact ⟨_, _, _, rfl, rfl, rfl, rfl, rfl, by kernel_rfl⟩
  | 10, h => exact ⟨_, _, _, rfl, rfl, rfl, rfl, rfl, by kernel_rfl⟩
  | 11, h => exact ⟨_, _, _, rfl, rfl, rfl, rfl, rfl, by kernel_rfl⟩
set_option maxRecDepth 100000 in
set_option maxHeartbeats 2000000 in
theorem between_any (a b : Int) (w : World) : Calls Tryz.prog 17 #[.int .i64 a, .int .i64 b] w fun e w' => e = .returned (.int .i64 (between a b)) ∧ Below w.heap.size w w' := by
  go_enter Tryz.func17, Tryz.ntmps17
  go_wp2_with (go_at_call 34; refine (table_at _).mono ?_; rintro e w1 ⟨g, cap, rfl, hown, hb⟩)
  have hg : g < w1.heap.size := by
    rcases hown.2 with ⟨e1, _⟩ | ⟨g', cap', cur, e1, _, hh, _⟩
    · cases e1
    · cases e1
      exact heap_lt hh
  have hT : ∀ j u, convRows[j]? = some u → w1.cell? ⟨g, j, none⟩ = some u := fun j u hu => owns_cell hown j u hu
  have HT := Lib.hid hT
  have hb' : Below w.heap.size w w1 := hb
  clear hT hown hb
  go_loopw [9] (fun i wr => ∃ j : Nat, j ≤ 12 ∧ i = .int .i64 j ∧ betwL a b j (ftL.drop j) = between a b ∧ Below w1.heap.size w1 wr) (fun i _ => 12 - (intOf i).toNat)
  case atStart => exact ⟨0, by omega, rfl, rfl, Below.refl _ _⟩
  case round =>
    obtain ⟨j, hj, rfl, hrel, hbw⟩ := hrel
    have HR := Lib.hid hrel
    clear hrel
    by_cases hlt : j < 12
    · obtain ⟨x, s, d, hd, y0, y1, y2, y3, ho⟩ := row_at j hlt
      have c0 := (hbw.cell (p := ⟨g, j * 4, none⟩) hg).trans (HT.out _ _ y0)
      have c1 := (hbw.cell (p := ⟨g, j * 4 + 1, none⟩) hg).trans (HT.out _ _ y1)
      have c2 := (hbw.cell (p := ⟨g, j * 4 + 2, none⟩) hg).trans (HT.out _ _ y2)
      have c3 := (hbw.cell (p := ⟨g, j * 4 + 3, none⟩) hg).trans (HT.out _ _ y3)
      have HO := Lib.hid ho
      have HD := Lib.hid hd
      have hZ := heap_last wr (.cells #[.int .i64 0, .int .i64 0, .bool false, .nilFunc] 47)
      clear y0 y1 y2 y3 ho hd
      by_cases e1 : (x.1 == a) = true
      · by_cases e2 : (x.2 == b) = true
        · as_aux_lemma =>
          go_wp2_with (refine wpList_store_row rfl 47 (.tmp 6) (.tmp 13) rfl wr.heap.size #[.int .i64 x.1, .int .i64 x.2, .bool s, d] rfl rfl 47 _ hZ (by kernel_rfl) rfl HO.out ?_; have hR := heap_row wr #[.int .i64 0, .int .i64 0, .bool false, .nilFunc] #[.int .i64 x.1, .int .i64 x.2, .bool s, d] 47; have hB := below_row hbw (.cells #[.int .i64 0, .int .i64 0, .bool false, .nilFunc] 47) #[.int .i64 x.1, .int .i64 x.2, .bool s, d]; generalize (wr.alloc (.cells #[.int .i64 0, .int .i64 0, .bool false, .nilFunc] 47)).setRow wr.heap.size #[.int .i64 x.1, .int .i64 x.2, .bool s, d] = w2 at hR hB ⊢; have z0 : w2.cell? ⟨wr.heap.size, 0, none⟩ = some (.int .i64 x.1) := cell_of_heap hR 0 _ rfl; have z1 : w2.cell? ⟨wr.heap.size, 1, none⟩ = some (.int .i64 x.2) := cell_of_heap hR 1 _ rfl)
          go_ret
          have e : betwL a b j (ftL.drop j) = ((j + 1 : Nat) : Int) := by rw [HD.out]; unfold betwL; rw [if_pos ⟨beq_iff_eq.1 e1, beq_iff_eq.1 e2⟩]
          exact ⟨by rw [← HR.out, e]; rfl, hb'.trans (hB.mono hb'.size)⟩
        · as_aux_lemma =>
          replace e2 : (x.2 == b) = false := by simpa using e2
          go_wp2_with (refine wpList_store_row rfl 47 (.tmp 6) (.tmp 13) rfl wr.heap.size #[.int .i64 x.1, .int .i64 x.2, .bool s, d] rfl rfl 47 _ hZ (by kernel_rfl) rfl HO.out ?_; have hR := heap_row wr #[.int .i64 0, .int .i64 0, .bool false, .nilFunc] #[.int .i64 x.1, .int .i64 x.2, .bool s, d] 47; have hB := below_row hbw (.cells #[.int .i64 0, .int .i64 0, .bool false, .nilFunc] 47) #[.int .i64 x.1, .int .i64 x.2, .bool s, d]; generalize (wr.alloc (.cells #[.int .i64 0, .int .i64 0, .bool false, .nilFunc] 47)).setRow wr.heap.size #[.int .i64 x.1, .int .i64 x.2, .bool s, d] = w2 at hR hB ⊢; have z0 : w2.cell? ⟨wr.heap.size, 0, none⟩ = some (.int .i64 x.1) := cell_of_heap hR 0 _ rfl; have z1 : w2.cell? ⟨wr.heap.size, 1, none⟩ = some (.int .i64 x.2) := cell_of_heap hR 1 _ rfl)
          go_roundw
          case rel =>
            have e : betwL a b j (ftL.drop j) = betwL a b (j + 1) (ftL.drop (j + 1)) := by rw [HD.out]; conv => lhs; unfold betwL; rw [if_neg (fun q => by have := beq_iff_eq.2 q.2; rw [e2] at this; cases this)]
            exact ⟨j + 1, by omega, by go_num, by rw [← e]; exact HR.out, hB⟩
          case measure => simp [intOf]; omega
      · as_aux_lemma =>
        replace e1 : (x.1 == a) = false := by simpa using e1
        go_wp2_with (refine wpList_store_row rfl 47 (.tmp 6) (.tmp 13) rfl wr.heap.size #[.int .i64 x.1, .int .i64 x.2, .bool s, d] rfl rfl 47 _ hZ (by kernel_rfl) rfl HO.out ?_; have hR := heap_row wr #[.int .i64 0, .int .i64 0, .bool false, .nilFunc] #[.int .i64 x.1, .int .i64 x.2, .bool s, d] 47; have hB := below_row hbw (.cells #[.int .i64 0, .int .i64 0, .bool false, .nilFunc] 47) #[.int .i64 x.1, .int .i64 x.2, .bool s, d]; generalize (wr.alloc (.cells #[.int .i64 0, .int .i64 0, .bool false, .nilFunc] 47)).setRow wr.heap.size #[.int .i64 x.1, .int .i64 x.2, .bool s, d] = w2 at hR hB ⊢; have z0 : w2.cell? ⟨wr.heap.size, 0, none⟩ = some (.int .i64 x.1) := cell_of_heap hR 0 _ rfl; have z1 : w2.cell? ⟨wr.heap.size, 1, none⟩ = some (.int .i64 x.2) := cell_of_heap hR 1 _ rfl)
        go_roundw
        case rel =>
          have e : betwL a b j (ftL.drop j) = betwL a b (j + 1) (ftL.drop (j + 1)) := by rw [HD.out]; conv => lhs; unfold betwL; rw [if_neg (fun q => by have := beq_iff_eq.2 q.1; rw [e1] at this; cases this)]
          exact ⟨j + 1, by omega, by go_num, by rw [← e]; exact HR.out, hB⟩
        case measure => simp [intOf]; omega
    · as_aux_lemma =>
      have e12 : j = 12 := by omega
      subst e12
      go_wp2
      go_ret
      exact ⟨by rw [← HR.out]; rfl, hb'.trans (hbw.mono hb'.size)⟩
end Go.Proofs.YthfhkfebkpdkcaaGreatDoor
