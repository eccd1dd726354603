/- A world for the witnesses; a list of entries that came in, opened; no condition. -/
import Derived.Test.YtpmebnkjcekmmaaGreatDoorCards
import Derived.Test.YtpmebnkjcekmmaaGreatDoorTie
import Derived.Test.YtpmebnkjcekmmaaGreatDoorT0
import Derived.WalkKit
import Derived.ProofKit
import Derived.OpenShut
import Derived.LaidMore
import Derived.Lay
import Derived.Deep.DeepHandedRow
import Derived.Deep.Strs
import Derived.Deep.Slices
import Derived.SizedLaws
import Derived.Carry
import Derived.Lib.SmallJoins
import Derived.SevenTiedAt
namespace Go.Proofs.YtpmebnkjcekmmaaGreatDoor
open Go.ChangeShapes Go.WideShapes Go.ChangeAt Go.RowKit Go.Deep Go.Proofs.YtpmebnkjcekmmaaGreatDoorW.PrintWords
set_option linter.unusedVariables false
set_option linter.unusedSimpArgs false

theorem own : ownKnob Tryz.prog.godebug = none := by kernel_rfl
theorem laidOut : laidOutB Tryz.prog = true := by kernel_rfl
abbrev laidL : List (String × DataW Unit) := Rows.sealOfRow.laid
/-- A WORLD FOR THE WITNESSES: what the row lists, laid. -/
noncomputable def laidW (os : Os) : World := World.laidAll Tryz.prog os laidL
theorem laid_met (os : Os) (args : Array Value) : laidMet Tryz.prog laidL ((laidW os).forCall (fun _ _ => 0) ⟨#[], args, []⟩).memory :=
  laidMet_laidAll args (by kernel_rfl) (by kernel_rfl)

/-! ### A list of entries, opened -/
theorem cells_int : Tryz.prog.cellsOf 3 = 1 := by kernel_rfl
theorem cells_str : Tryz.prog.cellsOf 9 = 1 := by kernel_rfl
theorem cells_ent : Tryz.prog.cellsOf 34 = 4 := by kernel_rfl
theorem bytes_ent : Tryz.prog.bytesOf 34 = 40 := by kernel_rfl
abbrev entD {H : Type} (o : T.S34) : DataW H := .agg [.lit (.int .i64 o.f0), .lit (.int .i64 o.f1), .lit (.string o.f2.data.toList), .lit (.int .i64 o.f3)]
/-- The numbers are of 64 bits. -/
def EntOk (o : T.S34) : Prop := (Lit.int .i64 o.f0).wf = true ∧ (Lit.int .i64 o.f1).wf = true ∧ (Lit.int .i64 o.f3).wf = true ∧ o.f2.size ≤ maxLen
section
variable {H : Type} {enc : TypeId × Value → H} {W : World} {base : Nat} {sp : Nat → Bool} {held : Bool}
theorem list4 {α : Type} {l : List α} (h : l.length = 4) : ∃ a b c d, l = [a, b, c, d] := by
  match l, h with
  | [a, b, c, d], _ => exact ⟨a, b, c, d, rfl⟩
theorem ent_of {fuel : Nat} {cs : List Value} {y : DataW H × List MemPlace} (h : DataW.trod enc Tryz.prog W base sp held fuel 34 cs = some y) :
    ∃ o : T.S34, cs = [.int .i64 o.f0, .int .i64 o.f1, .string o.f2, .int .i64 o.f3] ∧ y = (entD o, []) ∧ EntOk o := by
  obtain ⟨y0, y1, y2, y3, m, rfl, hl, h0, h1, h2, h3⟩ := Joins.trod_struct4 Tryz.underlying34 h
  obtain ⟨a, b, c, d, rfl⟩ := list4 (hl.trans cells_ent)
  simp only [cells_int, cells_str] at h0 h1 h2 h3
  obtain ⟨x0, e0, rfl, w0⟩ := DataW.trod_int Tryz.underlying3 h0
  obtain ⟨x1, e1, rfl, w1⟩ := DataW.trod_int Tryz.underlying3 h1
  obtain ⟨s, e2, rfl, w2⟩ := DataW.trod_string Tryz.underlying9 h2
  obtain ⟨x3, e3, rfl, w3⟩ := DataW.trod_int Tryz.underlying3 h3
  obtain rfl : a = .int .i64 x0 := by simpa using e0
  obtain rfl : b = .int .i64 x1 := by simpa using e1
  obtain rfl : c = .string s := by simpa using e2
  obtain rfl : d = .int .i64 x3 := by simpa using e3
  exact ⟨⟨x0, x1, s, x3⟩, rfl, by simp, w0, w1, w3, w2⟩
theorem ents_of {fuel : Nat} {cs : List Value} {y : DataW H × List MemPlace} (h : DataW.trod enc Tryz.prog W base sp held fuel 22 cs = some y) :
    ∃ (A : Option Addr) (cap : Nat) (l : List T.S34), cs = [.slice A l.length cap] ∧ l.length ≤ cap ∧ Kd.C T.k34 W A l.length l ∧ (∀ o ∈ l, EntOk o) ∧
      (l = [] ∨ ∃ rest, y.1 = .slice (l.map entD) rest) := by
  rcases open_slice Tryz.underlying22 h with ⟨rfl, rfl⟩ | ⟨a, len, cap, m, n, D, Pl, rfl, hb, hl, hm, hmm, rfl, hi⟩
  · exact ⟨none, 0, [], rfl, Nat.le_refl _, ⟨rfl, by simp, fun h => by simp at h⟩, fun o ho => (by cases ho), .inl rfl⟩
  · rw [cells_ent] at hi
    have hle : len ≤ m := by rw [hmm]; split; exact hl; exact Nat.le_refl _
    have hx : ∀ i : Nat, ∃ o : T.S34, i < len → EntOk o ∧ D i = entD o ∧ ∀ (j : Nat) (u : Value), [Value.int .i64 o.f0, .int .i64 o.f1, .string o.f2, .int .i64 o.f3][j]? = some u → W.cell? (a.add (i * 4 + j)) = some u := by
      intro i
      by_cases hil : i < len
      · obtain ⟨cs', hc, ht⟩ := hi i (by omega)
        obtain ⟨o, rfl, e, w⟩ := ent_of ht
        simp only [Prod.mk.injEq] at e
        refine ⟨o, fun _ => ⟨w, e.1, fun j u hj => ?_⟩⟩
        obtain ⟨_, hcl, hat⟩ := World.cells?_some hc
        have hj4 : j < 4 := by
          have := (List.getElem?_eq_some_iff.1 hj).1
          simpa using this
        rw [← Go.Deep.add_add, hat j hj4]
        exact hj
      · exact ⟨T.z34, fun q => absurd q hil⟩
    obtain ⟨f, hf⟩ := Classical.axiomOfChoice hx
    have ll : ((List.range len).map f).length = len := by simp
    have mem : ∀ o ∈ (List.range len).map f, ∃ i, i < len ∧ o = f i := by
      intro o ho
      obtain ⟨i, hi', rfl⟩ := List.mem_map.1 ho
      exact ⟨i, List.mem_range.1 hi', rfl⟩
    refine ⟨some a, cap, (List.range len).map f, by rw [ll], by rw [ll]; exact hl, ⟨rfl, ?_, fun _ => ⟨a, rfl, ?_⟩⟩, fun o ho => ?_, .inr ⟨(List.range (m - len)).map fun j => D (len + j), ?_⟩⟩
    · rw [ll]
      have : maxLen = 9223372036854775807 := by decide
      omega
    · intro j p hj
      obtain ⟨hjl, rfl⟩ := List.getElem?_eq_some_iff.1 hj
      rw [ll] at hjl
      have ej : ((List.range len).map f)[j]'(by rw [ll]; exact hjl) = f j := by simp
      rw [ej]
      exact ⟨_, rfl, T.k34_mk W (f j), (hf j hjl).2.2⟩
    · obtain ⟨i, hil, rfl⟩ := mem o ho
      exact (hf i hil).1
    · show DataW.slice _ _ = _
      congr 1
      rw [List.map_map]
      refine List.map_congr_left fun i hi' => ?_
      exact (hf i (List.mem_range.1 hi')).2.1
set_option maxRecDepth 100000 in
theorem open_ents {r : Reach} {b0 : Nat} {v : Value} {d : DataW H} {p : List MemPlace} (hv : Value.okWide Tryz.prog W r b0 22 v) (h : DataW.Trod enc Tryz.prog W base sp held 22 v d p) :
    ∃ (A : Option Addr) (cap : Nat) (l : List T.S34), v = .slice A l.length cap ∧ l.length ≤ cap ∧ Kd.C T.k34 W A l.length l ∧ (∀ o ∈ l, EntOk o) ∧
      (l = [] ∨ ∃ rest, d = .slice (l.map entD) rest) := by
  obtain ⟨a, len, cap, rfl⟩ := okWide_slice Tryz.underlying22 hv
  obtain ⟨fuel, hf⟩ := h
  obtain ⟨A, cap', l, e, h1, h2, h3, h4⟩ := ents_of hf
  have e' : [Value.slice a len cap] = [.slice A l.length cap'] := e
  cases e'
  exact ⟨_, _, l, rfl, h1, h2, h3, h4⟩
theorem weigh_ent (o : T.S34) : o.f2.size ∈ DataW.weights Tryz.prog 34 (entD (H := H) o) := by
  have e : o.f2.data.toList.length = o.f2.size := Array.length_toList
  unfold DataW.weights
  simp only [Tryz.underlying34, List.map_cons, List.map_nil, DataW.weightsEach, DataW.weights, List.append_nil, List.nil_append, e, List.mem_singleton]
theorem weigh_ents (l : List T.S34) : ∀ o ∈ l, o.f2.size ∈ DataW.weightsAll Tryz.prog 34 (l.map (entD (H := H))) := by
  induction l with
  | nil => intro o ho; cases ho
  | cons x r ih =>
    intro o ho
    rw [List.map_cons, DataW.weightsAll]
    rcases List.mem_cons.1 ho with rfl | ho
    · exact List.mem_append_left _ (weigh_ent _)
    · exact List.mem_append_right _ (ih o ho)
/-- What a row lets in of a list of entries. -/
structure EntsOk (l : List T.S34) : Prop where
  len : l.length * 40 ≤ 140737488355328
  ok : ∀ o ∈ l, EntOk o ∧ o.f2.size ≤ 140737488355328
theorem ents_ok {ts : List TypeId} {ds : List (DataW H)} (hsz : (DataW.weightsEach Tryz.prog ts ds).all (· ≤ reachBytes) = true) (j : Nat) (ht : ts[j]? = some 22) {d : DataW H} (hd : ds[j]? = some d) {l : List T.S34} (hok : ∀ o ∈ l, EntOk o) (h : l = [] ∨ ∃ rest, d = .slice (l.map entD) rest) : EntsOk l := by
  rcases h with rfl | ⟨rest, rfl⟩
  · exact ⟨by simp, fun o ho => (by cases ho)⟩
  · have z := sized_slice hsz ht hd Tryz.underlying22
    rw [bytes_ent, List.length_map] at z
    have rb := reachBytes_lt
    refine ⟨by have := Nat.le_add_right l.length rest.length; have h2 := Nat.mul_le_mul_right 40 this; omega, fun o ho => ⟨hok o ho, ?_⟩⟩
    have q := of_decide_eq_true (List.all_eq_true.1 hsz _ (DataW.weights_mem_each ht hd o.f2.size (by
      simp only [DataW.weights, Tryz.underlying22]
      exact List.mem_cons_of_mem _ (List.mem_append_left _ (weigh_ents l o ho)))))
    omega
end
end Go.Proofs.YtpmebnkjcekmmaaGreatDoor
