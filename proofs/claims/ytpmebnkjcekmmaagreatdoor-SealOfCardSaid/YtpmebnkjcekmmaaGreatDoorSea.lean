/- How many entries stand ahead; seal.taken and seal.Entries answer all entries, for every world. -/
import Derived.Test.YtpmebnkjcekmmaaGreatDoorEns
import Derived.Test.YtpmebnkjcekmmaaGreatDoorCopy
import Derived.Test.YtpmebnkjcekmmaaGreatDoorT0
namespace Go.Proofs.YtpmebnkjcekmmaaGreatDoor
open Go.RowKit Go.Lib Go.Proofs.YtpmebnkjcekmmaaGreatDoorW.PrintWords Go.Proofs.YtpmebnkjcekmmaaGreatDoorW.PrintLast
set_option linter.unusedVariables false
set_option linter.unusedSimpArgs false

/-! ### How many entries stand ahead -/
theorem kbase_any (w : World) : Calls Tryz.prog 28 #[] w fun e w' => e = .returned (.int .i64 0) ∧ Below w.heap.size w w' := by
  go_enter Tryz.func28, Tryz.ntmps28
  go_wp2_with go_in
  go_ret
  exact ⟨rfl, Below.refl _ _⟩
set_option maxRecDepth 100000 in
theorem cbase_any_in (w : World) : Calls Tryz.prog 61 #[] w fun e w' => e = .returned (.int .i64 5) ∧ Below w.heap.size w w' := by
  go_enter Tryz.func61, Tryz.ntmps61
  go_wp2_with (first
    | (go_at_call 28; refine (kbase_any _).mono ?_; rintro e w1 ⟨rfl, hb1⟩)
    | (go_at_call 23; refine (kentries_any _).mono ?_; rintro e w2 ⟨g, rfl, _, _, hb2⟩))
  go_ret
  exact ⟨rfl, below_then hb1 hb1.size hb2⟩
theorem cbase_any (w : World) : Calls Tryz.prog 29 #[] w fun e w' => e = .returned (.int .i64 5) ∧ Below w.heap.size w w' := by
  go_enter Tryz.func29, Tryz.ntmps29
  go_wp2_with (go_at_call 61; refine (cbase_any_in _).mono ?_; rintro e w1 ⟨rfl, hb1⟩)
  go_ret
  exact ⟨rfl, hb1⟩
set_option maxRecDepth 100000 in
theorem sbase_any_in (w : World) : Calls Tryz.prog 62 #[] w fun e w' => e = .returned (.int .i64 17) ∧ Below w.heap.size w w' := by
  go_enter Tryz.func62, Tryz.ntmps62
  go_wp2_with (first
    | (go_at_call 29; refine (cbase_any _).mono ?_; rintro e w1 ⟨rfl, hb1⟩)
    | (go_at_call 24; refine (centries_any _).mono ?_; rintro e w2 ⟨g, rfl, _, _, hb2⟩))
  go_ret
  exact ⟨rfl, below_then hb1 hb1.size hb2⟩
theorem sbase_any (w : World) : Calls Tryz.prog 30 #[] w fun e w' => e = .returned (.int .i64 17) ∧ Below w.heap.size w w' := by
  go_enter Tryz.func30, Tryz.ntmps30
  go_wp2_with (go_at_call 62; refine (sbase_any_in _).mono ?_; rintro e w1 ⟨rfl, hb1⟩)
  go_ret
  exact ⟨rfl, hb1⟩
set_option maxRecDepth 100000 in
theorem obase_any_in (w : World) : Calls Tryz.prog 63 #[] w fun e w' => e = .returned (.int .i64 23) ∧ Below w.heap.size w w' := by
  go_enter Tryz.func63, Tryz.ntmps63
  go_wp2_with (first
    | (go_at_call 30; refine (sbase_any _).mono ?_; rintro e w1 ⟨rfl, hb1⟩)
    | (go_at_call 25; refine (sentries_any _).mono ?_; rintro e w2 ⟨g, rfl, _, _, hb2⟩))
  go_ret
  exact ⟨rfl, below_then hb1 hb1.size hb2⟩
theorem obase_any (w : World) : Calls Tryz.prog 31 #[] w fun e w' => e = .returned (.int .i64 23) ∧ Below w.heap.size w w' := by
  go_enter Tryz.func31, Tryz.ntmps31
  go_wp2_with (go_at_call 63; refine (obase_any_in _).mono ?_; rintro e w1 ⟨rfl, hb1⟩)
  go_ret
  exact ⟨rfl, hb1⟩
set_option maxRecDepth 100000 in
theorem fbase_any_in (w : World) : Calls Tryz.prog 64 #[] w fun e w' => e = .returned (.int .i64 29) ∧ Below w.heap.size w w' := by
  go_enter Tryz.func64, Tryz.ntmps64
  go_wp2_with (first
    | (go_at_call 31; refine (obase_any _).mono ?_; rintro e w1 ⟨rfl, hb1⟩)
    | (go_at_call 26; refine (oentries_any _).mono ?_; rintro e w2 ⟨g, rfl, _, _, hb2⟩))
  go_ret
  exact ⟨rfl, below_then hb1 hb1.size hb2⟩
theorem fbase_any (w : World) : Calls Tryz.prog 32 #[] w fun e w' => e = .returned (.int .i64 29) ∧ Below w.heap.size w w' := by
  go_enter Tryz.func32, Tryz.ntmps32
  go_wp2_with (go_at_call 64; refine (fbase_any_in _).mono ?_; rintro e w1 ⟨rfl, hb1⟩)
  go_ret
  exact ⟨rfl, hb1⟩

/-! ### seal.taken, seal.Entries -/
def kindEs : List (Int × Int × ByteArray × Int) := [(1, 1, ⟨#[117, 105, 110, 116]⟩, 10), (1, 2, ⟨#[105, 110, 116]⟩, 10), (1, 3, ⟨#[98, 111, 111, 108]⟩, 1), (1, 4, ⟨#[116, 101, 120, 116]⟩, 0), (1, 5, ⟨#[98, 121, 116, 101, 115]⟩, 0)]
def allEs : List (Int × Int × ByteArray × Int) := kindEs ++ convEs ++ stepEs ++ opEs ++ foldEs
theorem wp_copy_cells {P : Program} {w : World} {o : Oper} {a : Act} {K : Act → World → Prop} {Q : Exit → Act → World → Prop} (d s : Operand) (dT sT : TypeId)
    (ho : o.op = .call { callee := .builtin .copy, args := #[d, s], argTypes := #[dT, sT] }) (elem : TypeId) (hu : P.underlying dT = some (.slice elem)) (k : Nat) (hsz : (P.info? elem).map (·.size) = some k)
    (g off dLen dCap : Nat) (ad : Addr) (sLen sCap : Nat) (hd : a.eval d = .slice (some ⟨g, off, none⟩) dLen dCap) (hs : a.eval s = .slice (some ad) sLen sCap)
    (cur : Array Value) (t : TypeId) (hg : w.heap[g]? = some (.cells cur t (0, 0))) (cs : List Value) (n : Nat) (hm : Nat.min sLen dLen = n) (hn : cs.length = n * k)
    (hsrc : ∀ j v, cs[j]? = some v → w.cell? (ad.add j) = some v) (hfit : off + cs.length ≤ cur.size) (h1 : ∀ v ∈ cs, v.oneCell' = true)
    (h : K (a.put o.dst (goInt n)) (w.setRow g (cur.toList.take off ++ (cs ++ cur.toList.drop (off + cs.length))).toArray)) : Oper.wp P o a w K Q := by
  have hrun := run_copy_cells (P := P) w dT sT o.type elem g off dLen dCap ad sLen sCap cur t cs k n hu hsz hg hm hn hsrc hfit h1
  unfold Oper.wp
  simp [execOp, ho, resolve, invoke, builtin, hd, hs, hrun, Result.andThen]
  exact h
theorem block_cells {w : World} {g : Nat} {cs : Array Value} {t : TypeId} (h : w.heap[g]? = some (.cells cs t (0, 0))) : ∀ j u, cs.toList[j]? = some u → w.cell? ((⟨g, 0, none⟩ : Addr).add j) = some u := by
  intro j u hu
  rw [add_none]
  exact cell_of_heap h j u (by simpa using hu)
theorem one_all {cs : Array Value} (h : cs.toList.all (·.oneCell') = true) : ∀ v ∈ cs.toList, v.oneCell' = true := fun v hv => List.all_eq_true.1 h v hv
/-- What is known of the list while it is filled: m entries are in. -/
def TakRel (w : World) (m : Nat) (wr : World) : Prop :=
  wr.heap[w.heap.size]? = some (.cells (fillL allEs 0) 61 (0, 0)) ∧ wr.heap[w.heap.size + 1]? = some (.cells (fillL allEs m) 61 (0, 0)) ∧ Below w.heap.size w wr
theorem tak_kind : ((fillL allEs 0).toList.take 0 ++ (filA.toList ++ (fillL allEs 0).toList.drop (0 + filA.toList.length))).toArray = fillL allEs 5 := by kernel_rfl
theorem tak_conv : ((fillL allEs 5).toList.take 20 ++ ((fillL convEs 12).toList ++ (fillL allEs 5).toList.drop (20 + (fillL convEs 12).toList.length))).toArray = fillL allEs 17 := by kernel_rfl
theorem tak_step : ((fillL allEs 17).toList.take 68 ++ ((fillL stepEs 6).toList ++ (fillL allEs 17).toList.drop (68 + (fillL stepEs 6).toList.length))).toArray = fillL allEs 23 := by kernel_rfl
theorem tak_op : ((fillL allEs 23).toList.take 92 ++ ((fillL opEs 6).toList ++ (fillL allEs 23).toList.drop (92 + (fillL opEs 6).toList.length))).toArray = fillL allEs 29 := by kernel_rfl
theorem tak_fold : ((fillL allEs 29).toList.take 116 ++ ((fillL foldEs 7).toList ++ (fillL allEs 29).toList.drop (116 + (fillL foldEs 7).toList.length))).toArray = fillL allEs 36 := by kernel_rfl
theorem tak_next {w wr w1 : World} {m n : Nat} {cs : List Value} (h : TakRel w m wr) (hb : Below wr.heap.size wr w1) (e : ((fillL allEs m).toList.take (m * 4) ++ (cs ++ (fillL allEs m).toList.drop (m * 4 + cs.length))).toArray = fillL allEs n) :
    TakRel w n (w1.setRow (w.heap.size + 1) ((fillL allEs m).toList.take (m * 4) ++ (cs ++ (fillL allEs m).toList.drop (m * 4 + cs.length))).toArray) := by
  obtain ⟨h0, h1, h2⟩ := h
  have p1 := (hb.block _ (heap_lt h1)).trans h1
  have p0 := (hb.block _ (heap_lt h0)).trans h0
  rw [e]
  exact ⟨(setRow_other _ _ _ _ (by omega)).trans p0, setRow_heap _ _ _ _ _ _ p1, below_setRow (below_then h2 h2.size hb) (by omega) _⟩
def taken2.T2 : Bool × List (List Nat × List Nat) := (true, [([], []), ([0], [0]), ([0], []), ([1, 2, 2], [1, 2])])
def taken2.B2 : List Nat := [0, 1, 1, 7]
theorem taken2.tab2 : rtab .any (opsOf Tryz.f48 2) = taken2.T2 := by kernel_rfl
theorem taken2.bits2 : waitsOk taken2.T2.2 taken2.B2 = true := by kernel_rfl
def taken3.T3 : Bool × List (List Nat × List Nat) := (true, [([], []), ([0], [0]), ([0], []), ([1, 2, 2], [1, 2])])
def taken3.B3 : List Nat := [0, 1, 1, 7]
theorem taken3.tab3 : rtab .any (opsOf Tryz.f48 3) = taken3.T3 := by kernel_rfl
theorem taken3.bits3 : waitsOk taken3.T3.2 taken3.B3 = true := by kernel_rfl
def taken4.T4 : Bool × List (List Nat × List Nat) := (true, [([], []), ([0], [0]), ([0], []), ([1, 2, 2], [1, 2])])
def taken4.B4 : List Nat := [0, 1, 1, 7]
theorem taken4.tab4 : rtab .any (opsOf Tryz.f48 4) = taken4.T4 := by kernel_rfl
theorem taken4.bits4 : waitsOk taken4.T4.2 taken4.B4 = true := by kernel_rfl
def taken5.T5 : Bool × List (List Nat × List Nat) := (true, [([], []), ([0], [0]), ([0], []), ([1, 2, 2], [1, 2])])
def taken5.B5 : List Nat := [0, 1, 1, 7]
theorem taken5.tab5 : rtab .any (opsOf Tryz.f48 5) = taken5.T5 := by kernel_rfl
theorem taken5.bits5 : waitsOk taken5.T5.2 taken5.B5 = true := by kernel_rfl
def taken6.T6 : Bool × List (List Nat × List Nat) := (true, [([], []), ([0], [0]), ([0], []), ([1, 2, 2], [1, 2])])
def taken6.B6 : List Nat := [0, 1, 1, 7]
theorem taken6.tab6 : rtab .any (opsOf Tryz.f48 6) = taken6.T6 := by kernel_rfl
theorem taken6.bits6 : waitsOk taken6.T6.2 taken6.B6 = true := by kernel_rfl
set_option maxRecDepth 100000 in
set_option maxHeartbeats 8000000 in
theorem taken_any (w : World) : Calls Tryz.prog 48 #[] w fun e w' => e = .returned (.agg (fillL allEs 36)) ∧ Below w.heap.size w w' := by
  go_enter Tryz.func48, Tryz.ntmps48
  go_wp2
  have hR : TakRel w 0 ((w.alloc (.cells (fillL allEs 0) 61)).alloc (.cells (fillL allEs 0) 61)) := ⟨heap_a2 w _ _, heap_b2 w _ _, below2 w _ _⟩
  obtain ⟨wr, hwr⟩ : ∃ wr, wr = (w.alloc (.cells (fillL allEs 0) 61)).alloc (.cells (fillL allEs 0) 61) := ⟨_, rfl⟩
  have HR := Lib.hid (hwr ▸ hR)
  clear hR
  change Code.wp _ _ _ _ ((w.alloc (.cells (fillL allEs 0) 61)).alloc (.cells (fillL allEs 0) 61))
  rw [← hwr]
  clear hwr
  refine start_ (n := 4) (S := fun w' => True) (ds := [3]) #[false, false, false, false] (by kernel_rfl) rfl rfl trivial (fun hHeld => ?_)
  refine with_tabW taken2.tab2 taken2.bits2 (fun HT_ HW_ => ?_)
  refine one_ (i := 0) (N := some 2) #[true, false, false, false] rfl rfl (one_of HT_.out (by kernel_rfl)) (by decide) (fun K hK => ?_)
  refine goes_ Tryz.func28 (by kernel_rfl) rfl #[] (by rfl) rfl rfl (by (try simp only [List.map_toArray, List.map_cons, List.map_nil]); first | done | rfl) ?_
  with_reducible refine (kbase_any _).mono ?_
  rintro e wa ⟨rfl, hbwa⟩
  refine ⟨_, rfl, ?_⟩
  refine hK.out _ _ trivial (fun hHeld => ?_)
  clear hK K
  refine norm_ (a' := ?_) ?_ ?_
  rotate_left
  · show Act.put _ (some 2) _ = _
    simp only [Act.put, List.setIfInBounds_toArray, List.set_cons_zero, List.set_cons_succ, i64_w, i32_w]
    rfl
  refine pure_ (i := 1) (N := some 3) (v := ?_) (a' := ?_) #[true, true, false, false] rfl rfl (any_of HT_.out (by kernel_rfl)) (fun _ _ _ h => h) (Or.inl ⟨by rfl, ?_⟩) ?_ ?_
  rotate_left
  · intro w'
    go_simp
    with_reducible rfl
  rotate_left
  · simp only [Act.put, List.setIfInBounds_toArray, List.set_cons_zero, List.set_cons_succ, i64_w, i32_w]
    rfl
  refine one_ (i := 2) (N := some 4) #[true, true, true, false] rfl rfl (one_of HT_.out (by kernel_rfl)) (by decide) (fun K hK => ?_)
  refine goes_ Tryz.func23 (by kernel_rfl) rfl #[] (by rfl) rfl rfl (by (try simp only [List.map_toArray, List.map_cons, List.map_nil]); first | done | rfl) ?_
  with_reducible refine (kentries_any _).mono ?_
  rintro e wb ⟨gwb, rfl, _, hhwb, hbwb⟩
  refine ⟨_, rfl, ?_⟩
  refine hK.out _ _ trivial (fun hHeld => ?_)
  clear hK K
  refine norm_ (a' := ?_) ?_ ?_
  rotate_left
  · show Act.put _ (some 4) _ = _
    simp only [Act.put, List.setIfInBounds_toArray, List.set_cons_zero, List.set_cons_succ, i64_w, i32_w]
    rfl
  refine last_ (i := 3) (N := some 5) #[true, true, true, true] rfl rfl (one_of HT_.out (by kernel_rfl)) (by decide) (fun K hK => ?_)
  have hB3 := below_then (below_then (below_drew (Below.refl wr.heap.size wr)) (below_drew (Below.refl wr.heap.size wr)).size hbwa) (below_then (below_drew (Below.refl wr.heap.size wr)) (below_drew (Below.refl wr.heap.size wr)).size hbwa).size hbwb
  have p1 := (hB3.block _ (heap_lt HR.out.2.1)).trans HR.out.2.1
  have hX := tak_next HR.out hB3 tak_kind
  rw [if_pos (by rfl)]
  refine wp_copy_cells _ _ _ _ rfl 34 Tryz.underlying22 4 (by kernel_rfl) (w.heap.size + 1) (0 * 4) 36 36 ⟨gwb, 0, none⟩ 5 5 (by first | rfl | simp [Act.eval]) (by first | rfl | simp [Act.eval]) (fillL allEs 0) 61 p1 filA.toList 5 (by decide) (by kernel_rfl) (block_cells hhwb) (by decide +kernel) (one_all (by kernel_rfl)) ?_
  generalize wb.setRow (w.heap.size + 1) _ = wn at hX ⊢
  have HX := Lib.hid hX
  clear hX p1 hB3 hhwb hbwb hbwa
  refine hK.out _ _ ?_
  clear hK K
  refine norm_ (a' := ?_) ?_ ?_
  rotate_left
  · show Act.put _ (some 5) _ = _
    simp only [Act.put, List.setIfInBounds_toArray, List.set_cons_zero, List.set_cons_succ, i64_w, i32_w]
    rfl
  refine done_ (done_of HT_.out (by kernel_rfl)) ?_

  clear HR
  have HR := Lib.hid HX.out
  clear HX
  obtain ⟨wr, rfl⟩ : ∃ wr : World, wr = wn := ⟨_, rfl⟩
  go_wp2
  refine start_ (n := 4) (S := fun w' => True) (ds := [3]) #[false, false, false, false] (by kernel_rfl) rfl rfl trivial (fun hHeld => ?_)
  refine with_tabW taken3.tab3 taken3.bits3 (fun HT_ HW_ => ?_)
  refine one_ (i := 0) (N := some 6) #[true, false, false, false] rfl rfl (one_of HT_.out (by kernel_rfl)) (by decide) (fun K hK => ?_)
  refine goes_ Tryz.func29 (by kernel_rfl) rfl #[] (by rfl) rfl rfl (by (try simp only [List.map_toArray, List.map_cons, List.map_nil]); first | done | rfl) ?_
  with_reducible refine (cbase_any _).mono ?_
  rintro e wa ⟨rfl, hbwa⟩
  refine ⟨_, rfl, ?_⟩
  refine hK.out _ _ trivial (fun hHeld => ?_)
  clear hK K
  refine norm_ (a' := ?_) ?_ ?_
  rotate_left
  · show Act.put _ (some 6) _ = _
    simp only [Act.put, List.setIfInBounds_toArray, List.set_cons_zero, List.set_cons_succ, i64_w, i32_w]
    rfl
  refine pure_ (i := 1) (N := some 7) (v := ?_) (a' := ?_) #[true, true, false, false] rfl rfl (any_of HT_.out (by kernel_rfl)) (fun _ _ _ h => h) (Or.inl ⟨by rfl, ?_⟩) ?_ ?_
  rotate_left
  · intro w'
    go_simp
    with_reducible rfl
  rotate_left
  · simp only [Act.put, List.setIfInBounds_toArray, List.set_cons_zero, List.set_cons_succ, i64_w, i32_w]
    rfl
  refine one_ (i := 2) (N := some 8) #[true, true, true, false] rfl rfl (one_of HT_.out (by kernel_rfl)) (by decide) (fun K hK => ?_)
  refine goes_ Tryz.func24 (by kernel_rfl) rfl #[] (by rfl) rfl rfl (by (try simp only [List.map_toArray, List.map_cons, List.map_nil]); first | done | rfl) ?_
  with_reducible refine (centries_any _).mono ?_
  rintro e wb ⟨gwb, rfl, _, hhwb, hbwb⟩
  refine ⟨_, rfl, ?_⟩
  refine hK.out _ _ trivial (fun hHeld => ?_)
  clear hK K
  refine norm_ (a' := ?_) ?_ ?_
  rotate_left
  · show Act.put _ (some 8) _ = _
    simp only [Act.put, List.setIfInBounds_toArray, List.set_cons_zero, List.set_cons_succ, i64_w, i32_w]
    rfl
  refine last_ (i := 3) (N := some 9) #[true, true, true, true] rfl rfl (one_of HT_.out (by kernel_rfl)) (by decide) (fun K hK => ?_)
  have hB3 := below_then (below_then (below_drew (Below.refl wr.heap.size wr)) (below_drew (Below.refl wr.heap.size wr)).size hbwa) (below_then (below_drew (Below.refl wr.heap.size wr)) (below_drew (Below.refl wr.heap.size wr)).size hbwa).size hbwb
  have p1 := (hB3.block _ (heap_lt HR.out.2.1)).trans HR.out.2.1
  have hX := tak_next HR.out hB3 tak_conv
  rw [if_pos (by rfl)]
  refine wp_copy_cells _ _ _ _ rfl 34 Tryz.underlying22 4 (by kernel_rfl) (w.heap.size + 1) (5 * 4) 31 31 ⟨gwb, 0, none⟩ 12 12 (by first | rfl | simp [Act.eval]) (by first | rfl | simp [Act.eval]) (fillL allEs 5) 61 p1 (fillL convEs 12).toList 12 (by decide) (by kernel_rfl) (block_cells hhwb) (by decide +kernel) (one_all (by kernel_rfl)) ?_
  generalize wb.setRow (w.heap.size + 1) _ = wn at hX ⊢
  have HX := Lib.hid hX
  clear hX p1 hB3 hhwb hbwb hbwa
  refine hK.out _ _ ?_
  clear hK K
  refine norm_ (a' := ?_) ?_ ?_
  rotate_left
  · show Act.put _ (some 9) _ = _
    simp only [Act.put, List.setIfInBounds_toArray, List.set_cons_zero, List.set_cons_succ, i64_w, i32_w]
    rfl
  refine done_ (done_of HT_.out (by kernel_rfl)) ?_

  clear HR
  have HR := Lib.hid HX.out
  clear HX
  obtain ⟨wr, rfl⟩ : ∃ wr : World, wr = wn := ⟨_, rfl⟩
  go_wp2
  refine start_ (n := 4) (S := fun w' => True) (ds := [3]) #[false, false, false, false] (by kernel_rfl) rfl rfl trivial (fun hHeld => ?_)
  refine with_tabW taken4.tab4 taken4.bits4 (fun HT_ HW_ => ?_)
  refine one_ (i := 0) (N := some 10) #[true, false, false, false] rfl rfl (one_of HT_.out (by kernel_rfl)) (by decide) (fun K hK => ?_)
  refine goes_ Tryz.func30 (by kernel_rfl) rfl #[] (by rfl) rfl rfl (by (try simp only [List.map_toArray, List.map_cons, List.map_nil]); first | done | rfl) ?_
  with_reducible refine (sbase_any _).mono ?_
  rintro e wa ⟨rfl, hbwa⟩
  refine ⟨_, rfl, ?_⟩
  refine hK.out _ _ trivial (fun hHeld => ?_)
  clear hK K
  refine norm_ (a' := ?_) ?_ ?_
  rotate_left
  · show Act.put _ (some 10) _ = _
    simp only [Act.put, List.setIfInBounds_toArray, List.set_cons_zero, List.set_cons_succ, i64_w, i32_w]
    rfl
  refine pure_ (i := 1) (N := some 11) (v := ?_) (a' := ?_) #[true, true, false, false] rfl rfl (any_of HT_.out (by kernel_rfl)) (fun _ _ _ h => h) (Or.inl ⟨by rfl, ?_⟩) ?_ ?_
  rotate_left
  · intro w'
    go_simp
    with_reducible rfl
  rotate_left
  · simp only [Act.put, List.setIfInBounds_toArray, List.set_cons_zero, List.set_cons_succ, i64_w, i32_w]
    rfl
  refine one_ (i := 2) (N := some 12) #[true, true, true, false] rfl rfl (one_of HT_.out (by kernel_rfl)) (by decide) (fun K hK => ?_)
  refine goes_ Tryz.func25 (by kernel_rfl) rfl #[] (by rfl) rfl rfl (by (try simp only [List.map_toArray, List.map_cons, List.map_nil]); first | done | rfl) ?_
  with_reducible refine (sentries_any _).mono ?_
  rintro e wb ⟨gwb, rfl, _, hhwb, hbwb⟩
  refine ⟨_, rfl, ?_⟩
  refine hK.out _ _ trivial (fun hHeld => ?_)
  clear hK K
  refine norm_ (a' := ?_) ?_ ?_
  rotate_left
  · show Act.put _ (some 12) _ = _
    simp only [Act.put, List.setIfInBounds_toArray, List.set_cons_zero, List.set_cons_succ, i64_w, i32_w]
    rfl
  refine last_ (i := 3) (N := some 13) #[true, true, true, true] rfl rfl (one_of HT_.out (by kernel_rfl)) (by decide) (fun K hK => ?_)
  have hB3 := below_then (below_then (below_drew (Below.refl wr.heap.size wr)) (below_drew (Below.refl wr.heap.size wr)).size hbwa) (below_then (below_drew (Below.refl wr.heap.size wr)) (below_drew (Below.refl wr.heap.size wr)).size hbwa).size hbwb
  have p1 := (hB3.block _ (heap_lt HR.out.2.1)).trans HR.out.2.1
  have hX := tak_next HR.out hB3 tak_step
  rw [if_pos (by rfl)]
  refine wp_copy_cells _ _ _ _ rfl 34 Tryz.underlying22 4 (by kernel_rfl) (w.heap.size + 1) (17 * 4) 19 19 ⟨gwb, 0, none⟩ 6 6 (by first | rfl | simp [Act.eval]) (by first | rfl | simp [Act.eval]) (fillL allEs 17) 61 p1 (fillL stepEs 6).toList 6 (by decide) (by kernel_rfl) (block_cells hhwb) (by decide +kernel) (one_all (by kernel_rfl)) ?_
  generalize wb.setRow (w.heap.size + 1) _ = wn at hX ⊢
  have HX := Lib.hid hX
  clear hX p1 hB3 hhwb hbwb hbwa
  refine hK.out _ _ ?_
  clear hK K
  refine norm_ (a' := ?_) ?_ ?_
  rotate_left
  · show Act.put _ (some 13) _ = _
    simp only [Act.put, List.setIfInBounds_toArray, List.set_cons_zero, List.set_cons_succ, i64_w, i32_w]
    rfl
  refine done_ (done_of HT_.out (by kernel_rfl)) ?_

  clear HR
  have HR := Lib.hid HX.out
  clear HX
  obtain ⟨wr, rfl⟩ : ∃ wr : World, wr = wn := ⟨_, rfl⟩
  go_wp2
  refine start_ (n := 4) (S := fun w' => True) (ds := [3]) #[false, false, false, false] (by kernel_rfl) rfl rfl trivial (fun hHeld => ?_)
  refine with_tabW taken5.tab5 taken5.bits5 (fun HT_ HW_ => ?_)
  refine one_ (i := 0) (N := some 14) #[true, false, false, false] rfl rfl (one_of HT_.out (by kernel_rfl)) (by decide) (fun K hK => ?_)
  refine goes_ Tryz.func31 (by kernel_rfl) rfl #[] (by rfl) rfl rfl (by (try simp only [List.map_toArray, List.map_cons, List.map_nil]); first | done | rfl) ?_
  with_reducible refine (obase_any _).mono ?_
  rintro e wa ⟨rfl, hbwa⟩
  refine ⟨_, rfl, ?_⟩
  refine hK.out _ _ trivial (fun hHeld => ?_)
  clear hK K
  refine norm_ (a' := ?_) ?_ ?_
  rotate_left
  · show Act.put _ (some 14) _ = _
    simp only [Act.put, List.setIfInBounds_toArray, List.set_cons_zero, List.set_cons_succ, i64_w, i32_w]
    rfl
  refine pure_ (i := 1) (N := some 15) (v := ?_) (a' := ?_) #[true, true, false, false] rfl rfl (any_of HT_.out (by kernel_rfl)) (fun _ _ _ h => h) (Or.inl ⟨by rfl, ?_⟩) ?_ ?_
  rotate_left
  · intro w'
    go_simp
    with_reducible rfl
  rotate_left
  · simp only [Act.put, List.setIfInBounds_toArray, List.set_cons_zero, List.set_cons_succ, i64_w, i32_w]
    rfl
  refine one_ (i := 2) (N := some 16) #[true, true, true, false] rfl rfl (one_of HT_.out (by kernel_rfl)) (by decide) (fun K hK => ?_)
  refine goes_ Tryz.func26 (by kernel_rfl) rfl #[] (by rfl) rfl rfl (by (try simp only [List.map_toArray, List.map_cons, List.map_nil]); first | done | rfl) ?_
  with_reducible refine (oentries_any _).mono ?_
  rintro e wb ⟨gwb, rfl, _, hhwb, hbwb⟩
  refine ⟨_, rfl, ?_⟩
  refine hK.out _ _ trivial (fun hHeld => ?_)
  clear hK K
  refine norm_ (a' := ?_) ?_ ?_
  rotate_left
  · show Act.put _ (some 16) _ = _
    simp only [Act.put, List.setIfInBounds_toArray, List.set_cons_zero, List.set_cons_succ, i64_w, i32_w]
    rfl
  refine last_ (i := 3) (N := some 17) #[true, true, true, true] rfl rfl (one_of HT_.out (by kernel_rfl)) (by decide) (fun K hK => ?_)
  have hB3 := below_then (below_then (below_drew (Below.refl wr.heap.size wr)) (below_drew (Below.refl wr.heap.size wr)).size hbwa) (below_then (below_drew (Below.refl wr.heap.size wr)) (below_drew (Below.refl wr.heap.size wr)).size hbwa).size hbwb
  have p1 := (hB3.block _ (heap_lt HR.out.2.1)).trans HR.out.2.1
  have hX := tak_next HR.out hB3 tak_op
  rw [if_pos (by rfl)]
  refine wp_copy_cells _ _ _ _ rfl 34 Tryz.underlying22 4 (by kernel_rfl) (w.heap.size + 1) (23 * 4) 13 13 ⟨gwb, 0, none⟩ 6 6 (by first | rfl | simp [Act.eval]) (by first | rfl | simp [Act.eval]) (fillL allEs 23) 61 p1 (fillL opEs 6).toList 6 (by decide) (by kernel_rfl) (block_cells hhwb) (by decide +kernel) (one_all (by kernel_rfl)) ?_
  generalize wb.setRow (w.heap.size + 1) _ = wn at hX ⊢
  have HX := Lib.hid hX
  clear hX p1 hB3 hhwb hbwb hbwa
  refine hK.out _ _ ?_
  clear hK K
  refine norm_ (a' := ?_) ?_ ?_
  rotate_left
  · show Act.put _ (some 17) _ = _
    simp only [Act.put, List.setIfInBounds_toArray, List.set_cons_zero, List.set_cons_succ, i64_w, i32_w]
    rfl
  refine done_ (done_of HT_.out (by kernel_rfl)) ?_

  clear HR
  have HR := Lib.hid HX.out
  clear HX
  obtain ⟨wr, rfl⟩ : ∃ wr : World, wr = wn := ⟨_, rfl⟩
  go_wp2
  refine start_ (n := 4) (S := fun w' => True) (ds := [3]) #[false, false, false, false] (by kernel_rfl) rfl rfl trivial (fun hHeld => ?_)
  refine with_tabW taken6.tab6 taken6.bits6 (fun HT_ HW_ => ?_)
  refine one_ (i := 0) (N := some 18) #[true, false, false, false] rfl rfl (one_of HT_.out (by kernel_rfl)) (by decide) (fun K hK => ?_)
  refine goes_ Tryz.func32 (by kernel_rfl) rfl #[] (by rfl) rfl rfl (by (try simp only [List.map_toArray, List.map_cons, List.map_nil]); first | done | rfl) ?_
  with_reducible refine (fbase_any _).mono ?_
  rintro e wa ⟨rfl, hbwa⟩
  refine ⟨_, rfl, ?_⟩
  refine hK.out _ _ trivial (fun hHeld => ?_)
  clear hK K
  refine norm_ (a' := ?_) ?_ ?_
  rotate_left
  · show Act.put _ (some 18) _ = _
    simp only [Act.put, List.setIfInBounds_toArray, List.set_cons_zero, List.set_cons_succ, i64_w, i32_w]
    rfl
  refine pure_ (i := 1) (N := some 19) (v := ?_) (a' := ?_) #[true, true, false, false] rfl rfl (any_of HT_.out (by kernel_rfl)) (fun _ _ _ h => h) (Or.inl ⟨by rfl, ?_⟩) ?_ ?_
  rotate_left
  · intro w'
    go_simp
    with_reducible rfl
  rotate_left
  · simp only [Act.put, List.setIfInBounds_toArray, List.set_cons_zero, List.set_cons_succ, i64_w, i32_w]
    rfl
  refine one_ (i := 2) (N := some 20) #[true, true, true, false] rfl rfl (one_of HT_.out (by kernel_rfl)) (by decide) (fun K hK => ?_)
  refine goes_ Tryz.func27 (by kernel_rfl) rfl #[] (by rfl) rfl rfl (by (try simp only [List.map_toArray, List.map_cons, List.map_nil]); first | done | rfl) ?_
  with_reducible refine (fentries_any _).mono ?_
  rintro e wb ⟨gwb, rfl, _, hhwb, hbwb⟩
  refine ⟨_, rfl, ?_⟩
  refine hK.out _ _ trivial (fun hHeld => ?_)
  clear hK K
  refine norm_ (a' := ?_) ?_ ?_
  rotate_left
  · show Act.put _ (some 20) _ = _
    simp only [Act.put, List.setIfInBounds_toArray, List.set_cons_zero, List.set_cons_succ, i64_w, i32_w]
    rfl
  refine last_ (i := 3) (N := some 21) #[true, true, true, true] rfl rfl (one_of HT_.out (by kernel_rfl)) (by decide) (fun K hK => ?_)
  have hB3 := below_then (below_then (below_drew (Below.refl wr.heap.size wr)) (below_drew (Below.refl wr.heap.size wr)).size hbwa) (below_then (below_drew (Below.refl wr.heap.size wr)) (below_drew (Below.refl wr.heap.size wr)).size hbwa).size hbwb
  have p1 := (hB3.block _ (heap_lt HR.out.2.1)).trans HR.out.2.1
  have hX := tak_next HR.out hB3 tak_fold
  rw [if_pos (by rfl)]
  refine wp_copy_cells _ _ _ _ rfl 34 Tryz.underlying22 4 (by kernel_rfl) (w.heap.size + 1) (29 * 4) 7 7 ⟨gwb, 0, none⟩ 7 7 (by first | rfl | simp [Act.eval]) (by first | rfl | simp [Act.eval]) (fillL allEs 29) 61 p1 (fillL foldEs 7).toList 7 (by decide) (by kernel_rfl) (block_cells hhwb) (by decide +kernel) (one_all (by kernel_rfl)) ?_
  generalize wb.setRow (w.heap.size + 1) _ = wn at hX ⊢
  have HX := Lib.hid hX
  clear hX p1 hB3 hhwb hbwb hbwa
  refine hK.out _ _ ?_
  clear hK K
  refine norm_ (a' := ?_) ?_ ?_
  rotate_left
  · show Act.put _ (some 21) _ = _
    simp only [Act.put, List.setIfInBounds_toArray, List.set_cons_zero, List.set_cons_succ, i64_w, i32_w]
    rfl
  refine done_ (done_of HT_.out (by kernel_rfl)) ?_

  clear HR
  have HR := Lib.hid HX.out
  clear HX
  obtain ⟨wr, rfl⟩ : ∃ wr : World, wr = wn := ⟨_, rfl⟩
  obtain ⟨o0, o1, hW⟩ := HR.out
  go_wp2_with (first
    | (refine wpList_load_row rfl 61 (.tmp 1) rfl (w.heap.size + 1) rfl 61 (fillL allEs 36) (0, 0) _ o1 Tryz.underlying61 rfl (by kernel_rfl) ?_)
    | (refine wpList_store_row rfl 61 (.tmp 0) (.tmp 22) rfl w.heap.size (fillL allEs 36) rfl rfl 61 (fillL allEs 0) o0 (by kernel_rfl) (by kernel_rfl) (by kernel_rfl) ?_))
  exact bodyPost_ret (results_cell_row rfl _ _ w.heap.size 61 (fillL allEs 36) (0, 0) _ rfl (setRow_heap _ _ _ _ _ _ o0) Tryz.underlying61 rfl (by kernel_rfl)) rfl ⟨rfl, below_setRow hW (Nat.le_refl _) _⟩
set_option maxRecDepth 100000 in
set_option maxHeartbeats 1000000 in
/-- seal.Entries: a new row of all entries. -/
theorem allentries_any (w : World) : Calls Tryz.prog 17 #[] w fun e w' => ∃ g, e = .returned (.slice (some ⟨g, 0, none⟩) 36 36) ∧ w.heap.size ≤ g ∧ w'.heap[g]? = some (.cells (fillL allEs 36) 61 (0, 0)) ∧ Below w.heap.size w w' := by
  go_enter Tryz.func17, Tryz.ntmps17
  go_wp2_with (first
    | (go_at_call 48; refine (taken_any _).mono ?_; rintro e w1 ⟨rfl, hb⟩; have hA := heap_last w1 (.cells (fillL allEs 0) 61))
    | (refine wpList_store_row rfl 61 (.tmp 1) (.tmp 2) rfl w1.heap.size (fillL allEs 36) rfl rfl 61 (fillL allEs 0) hA (by kernel_rfl) (by kernel_rfl) (by kernel_rfl) ?_; have hR := heap_row w1 (fillL allEs 0) (fillL allEs 36) 61; have hB := below_row hb (.cells (fillL allEs 0) 61) (fillL allEs 36)))
  go_ret
  exact ⟨w1.heap.size, rfl, hb.size, hR, hB⟩

/-! ### In the print's form -/
def allEnts : List T.S34 := allEs.map fun e => ⟨e.1, e.2.1, e.2.2.1, e.2.2.2⟩
def seal_Entries.f : Option (List T.S34) := some allEnts
theorem fl_at : ∀ (l : List (Int × Int × ByteArray × Int)) (j : Nat) (e : Int × Int × ByteArray × Int), l[j]? = some e → ((l.flatMap entC).drop (j * 4)).take 4 = entC e
  | [], j, e, h => by simp at h
  | x :: r, 0, e, h => by
    cases h
    simp [entC]
  | x :: r, j + 1, e, h => by
    have ih := fl_at r j e (by simpa using h)
    rw [List.flatMap_cons, show (j + 1) * 4 = 4 + j * 4 by omega, ← List.drop_drop]
    exact ih
theorem fl_all (l : List (Int × Int × ByteArray × Int)) : (fillL l l.length).toList = l.flatMap entC := by simp [fillL]
theorem all_at (j : Nat) (p : T.S34) (h : allEnts[j]? = some p) : ((fillL allEs 36).toList.drop (j * 4)).take 4 = [.int .i64 p.f0, .int .i64 p.f1, .string p.f2, .int .i64 p.f3] := by
  unfold allEnts at h
  rw [List.getElem?_map, Option.map_eq_some_iff] at h
  obtain ⟨e, he, rfl⟩ := h
  rw [show (fillL allEs 36).toList = allEs.flatMap entC from fl_all allEs]
  exact fl_at allEs j e he
theorem all_own {w : World} {g base : Nat} (hg : base ≤ g) (h : w.heap[g]? = some (.cells (fillL allEs 36) 61 (0, 0))) : Kd.R T.k34 61 w base (fun _ => True) (.slice (some ⟨g, 0, none⟩) 36 36) allEnts := by
  refine ⟨fun _ _ => trivial, (fillL allEs 36).toList, ⟨by kernel_rfl, .inr ⟨g, 36, fillL allEs 36, rfl, hg, h, by decide, by decide, by kernel_rfl, by kernel_rfl⟩⟩, ⟨by kernel_rfl, fun j p hp => ?_⟩⟩
  have e := all_at j p hp
  show Kd.M T.k34 w base _ p (((fillL allEs 36).toList.drop (j * 4)).take 4)
  rw [e]
  exact T.k34_mkM w base _ p
theorem seal_Entries.calls (r : List T.S34) (w : World) (h : seal_Entries.f = some r) :
    Calls Tryz.prog 17 #[] w fun e w' => ∃ v0_ : Value, e = .returned (v0_) ∧ Kd.R T.k34 61 w' w.heap.size (fun _ => True) v0_ r ∧ Below w.heap.size w w' := by
  obtain rfl := Option.some.inj h
  refine (allentries_any w).mono ?_
  rintro e w' ⟨g, rfl, hg, hh, hb⟩
  exact ⟨_, rfl, all_own hg hh, hb⟩
end Go.Proofs.YtpmebnkjcekmmaaGreatDoor
