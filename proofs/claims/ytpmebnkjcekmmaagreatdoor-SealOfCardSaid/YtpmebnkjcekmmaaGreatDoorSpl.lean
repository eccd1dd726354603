/- The plain law of SealOf, for every list of entries whose names are of at most 2^63-2 bytes. -/
import Derived.Test.YtpmebnkjcekmmaaGreatDoorT3
namespace Go.Proofs.YtpmebnkjcekmmaaGreatDoor
open Go.RowKit Go.Lib Go.Proofs.YtpmebnkjcekmmaaGreatDoorW.PrintWords
set_option linter.unusedVariables false
set_option linter.unusedSimpArgs false

/-! ### The mark of entries, as a plain function -/
abbrev Ent := T.S34
def takS (h x : Int) : Int := IntKind.u64.wrap ((Go.bits .xor .u64 h x) * 1099511628211)
def takB (h : Int) (l : List UInt8) : Int := l.foldl (fun h c => takS h (IntKind.u64.wrap (c.toNat : Int))) h
def takE (h : Int) (e : Ent) : Int := takS (takB (takS (takS h (IntKind.u64.wrap e.f0)) (IntKind.u64.wrap e.f1)) e.f2.data.toList) (IntKind.u64.wrap e.f3)
def ofL (l : List Ent) : Int := takS (l.foldl takE 14695981039346656037) (IntKind.u64.wrap (l.length : Int))
/-- The rounds that a list takes. -/
def cost (l : List Ent) : Nat := (l.map fun e => e.f2.size + 2).sum + 1
theorem cost_cons (e : Ent) (r : List Ent) : cost (e :: r) = e.f2.size + 2 + cost r := by
  unfold cost
  rw [List.map_cons, List.sum_cons]
  omega
theorem rd_mid (p : List Ent) (e : Ent) (r : List Ent) : T.rd_T34 (p ++ e :: r) (p.length : Int) = e := by
  unfold T.rd_T34
  rw [Int.toNat_natCast]
  simp [List.getD]
theorem data_drop (s : ByteArray) (i : Nat) (h : i < s.size) : ∃ c, bt s (i : Int) = (c.toNat : Int) ∧ s.data.toList.drop i = c :: s.data.toList.drop (i + 1) := by
  refine ⟨s[i], (bt_at s (i : Int) (by simpa using h)).symm, ?_⟩
  have hl : i < s.data.toList.length := by simpa using h
  rw [List.drop_eq_getElem_cons hl]
  congr 1
theorem through_l1 (l : List Ent) (n x10 : Int) (e : Ent) (hs : e.f2.size ≤ 9223372036854775806) : ∀ (d k i : Nat) (h : Int), e.f2.size - i = d → i ≤ e.f2.size →
    T.seal_through.l1 (k + d + 1) h l n x10 (e.f2.size : Int) (i : Int) e.f0 e.f1 e.f2 e.f3 = T.seal_through.l0 k (takS (takB h (e.f2.data.toList.drop i)) (IntKind.u64.wrap e.f3)) l n (wrap64 (x10 + 1)) := by
  intro d
  induction d with
  | zero =>
    intro k i h hd hi
    have z : e.f2.data.toList.drop i = [] := List.drop_eq_nil_of_le (by have : e.f2.data.toList.length = e.f2.size := Array.length_toList; omega)
    rw [show k + 0 + 1 = k + 1 by omega, T.seal_through.l1, if_neg (by omega), z]
    rfl
  | succ d ih =>
    intro k i h hd hi
    have hlt : i < e.f2.size := by omega
    obtain ⟨c, hc, hdrop⟩ := data_drop e.f2 i hlt
    have w : wrap64 ((i : Int) + 1) = ((i + 1 : Nat) : Int) := by unfold wrap64; omega
    rw [show k + (d + 1) + 1 = (k + d + 1) + 1 by omega, T.seal_through.l1, if_pos (by omega), if_pos (by omega), if_pos (by omega), hc, hdrop]
    unfold T.seal_mix.f
    rw [Option.bind_some, w]
    exact ih k (i + 1) _ (by clear w; omega) (by clear w; omega)
theorem through_l0 (l : List Ent) (hl : l.length ≤ 9223372036854775806) (hg : ∀ e ∈ l, e.f2.size ≤ 9223372036854775806) : ∀ (r p : List Ent) (k : Nat) (h : Int), l = p ++ r → cost r ≤ k →
    T.seal_through.l0 k h l (l.length : Int) (p.length : Int) = some (r.foldl takE h)
  | [], p, k, h, e, hk => by
    obtain ⟨k, rfl⟩ : ∃ q, k = q + 1 := ⟨k - 1, by unfold cost at hk; omega⟩
    have : l.length = p.length := by rw [e]; simp
    rw [T.seal_through.l0, if_neg (by omega)]
    rfl
  | x :: r, p, k, h, e, hk => by
    rw [cost_cons] at hk
    obtain ⟨q, rfl⟩ : ∃ q, k = q + x.f2.size + 1 + 1 := ⟨k - (x.f2.size + 2), by omega⟩
    have hlen : l.length = p.length + (r.length + 1) := by rw [e]; simp
    have hrd : T.rd_T34 l (p.length : Int) = x := by rw [e]; exact rd_mid p x r
    have w : wrap64 ((p.length : Int) + 1) = ((p ++ [x]).length : Int) := by rw [List.length_append, List.length_singleton]; unfold wrap64; omega
    rw [T.seal_through.l0, if_pos (by omega), if_pos (by omega), if_pos (by omega), hrd]
    unfold T.seal_mix.f
    rw [Option.bind_some, Option.bind_some, show (0 : Int) = ((0 : Nat) : Int) from rfl]
    rw [through_l1 l _ _ x (hg x (by rw [e]; simp)) x.f2.size q 0 _ (by omega) (by omega), w]
    exact through_l0 l hl hg r (p ++ [x]) q _ (by rw [e]; simp) (by clear w; omega)
theorem of_f (l : List Ent) (hl : l.length ≤ 9223372036854775806) (hg : ∀ e ∈ l, e.f2.size ≤ 9223372036854775806) (k : Nat) (hk : cost l ≤ k) : T.seal_Of.f k l = some (ofL l) := by
  unfold T.seal_Of.f T.seal_through.f
  have := through_l0 l hl hg l [] k 14695981039346656037 rfl hk
  rw [show ((0 : Int)) = (([] : List Ent).length : Int) from rfl, this, Option.bind_some]
  rfl
theorem rof_l1 (l : List Ent) (x4 : Nat) (e : Ent) (h4 : x4 < l.length) (he : T.rd_T34 l (x4 : Int) = e) (hs : e.f2.size ≤ 9223372036854775806) : ∀ (d k i : Nat) (h : Int), e.f2.size - i = d → i ≤ e.f2.size →
    T.stratumref19_Of.l1 (k + d + 1) l h (x4 : Int) (i : Int) = T.stratumref19_Of.l0 k l (takS (takB h (e.f2.data.toList.drop i)) (IntKind.u64.wrap e.f3)) (wrap64 ((x4 : Int) + 1)) := by
  intro d
  induction d with
  | zero =>
    intro k i h hd hi
    have z : e.f2.data.toList.drop i = [] := List.drop_eq_nil_of_le (by have : e.f2.data.toList.length = e.f2.size := Array.length_toList; omega)
    rw [show k + 0 + 1 = k + 1 by omega, T.stratumref19_Of.l1, if_pos (by omega), if_pos (by omega), he, if_neg (by omega), z]
    rfl
  | succ d ih =>
    intro k i h hd hi
    have hlt : i < e.f2.size := by omega
    obtain ⟨c, hc, hdrop⟩ := data_drop e.f2 i hlt
    have w : wrap64 ((i : Int) + 1) = ((i + 1 : Nat) : Int) := by unfold wrap64; omega
    rw [show k + (d + 1) + 1 = (k + d + 1) + 1 by omega, T.stratumref19_Of.l1, if_pos (by omega), if_pos (by omega), he, if_pos (by omega), if_pos (by omega), hc, hdrop]
    unfold T.stratumref19_take.f
    rw [Option.bind_some, w]
    exact ih k (i + 1) _ (by clear w; omega) (by clear w; omega)
theorem rof_l0 (l : List Ent) (hl : l.length ≤ 9223372036854775806) (hg : ∀ e ∈ l, e.f2.size ≤ 9223372036854775806) : ∀ (r p : List Ent) (k : Nat) (h : Int), l = p ++ r → cost r ≤ k →
    T.stratumref19_Of.l0 k l h (p.length : Int) = some (takS (r.foldl takE h) (IntKind.u64.wrap (l.length : Int)))
  | [], p, k, h, e, hk => by
    obtain ⟨k, rfl⟩ : ∃ q, k = q + 1 := ⟨k - 1, by unfold cost at hk; omega⟩
    have : l.length = p.length := by rw [e]; simp
    rw [T.stratumref19_Of.l0, if_neg (by omega)]
    rfl
  | x :: r, p, k, h, e, hk => by
    rw [cost_cons] at hk
    obtain ⟨q, rfl⟩ : ∃ q, k = q + x.f2.size + 1 + 1 := ⟨k - (x.f2.size + 2), by omega⟩
    have hlen : l.length = p.length + (r.length + 1) := by rw [e]; simp
    have hrd : T.rd_T34 l (p.length : Int) = x := by rw [e]; exact rd_mid p x r
    have w : wrap64 ((p.length : Int) + 1) = ((p ++ [x]).length : Int) := by rw [List.length_append, List.length_singleton]; unfold wrap64; omega
    rw [T.stratumref19_Of.l0, if_pos (by omega), if_pos (by omega), hrd]
    unfold T.stratumref19_take.f
    rw [Option.bind_some, Option.bind_some, show (0 : Int) = ((0 : Nat) : Int) from rfl]
    rw [rof_l1 l p.length x (by omega) hrd (hg x (by rw [e]; simp)) x.f2.size q 0 _ (by omega) (by omega), w]
    exact rof_l0 l hl hg r (p ++ [x]) q _ (by rw [e]; simp) (by clear w; omega)
theorem rof_f (l : List Ent) (hl : l.length ≤ 9223372036854775806) (hg : ∀ e ∈ l, e.f2.size ≤ 9223372036854775806) (k : Nat) (hk : cost l ≤ k) : T.stratumref19_Of.f k l = some (ofL l) := by
  unfold T.stratumref19_Of.f
  have := rof_l0 l hl hg l [] k 14695981039346656037 rfl hk
  rw [show ((0 : Int)) = (([] : List Ent).length : Int) from rfl, this]
  rfl

/-! ### awake -/
theorem awake_once : T.stratumlaw19_awake.f 600 = some true := by kernel_rfl
theorem awake_f (k : Nat) (hk : 600 ≤ k) : T.stratumlaw19_awake.f k = some true := at_rounds T.stratumlaw19_awake.mono hk awake_once
theorem sealOf_true (l : List Ent) (hl : l.length ≤ 9223372036854775806) (hg : ∀ e ∈ l, e.f2.size ≤ 9223372036854775806) : ∃ k, T.stratumlaw19_SealOf.f k l = some true := by
  refine ⟨cost l + 600, ?_⟩
  unfold T.stratumlaw19_SealOf.f
  rw [awake_f _ (by omega), Option.bind_some, if_pos rfl, of_f l hl hg _ (by omega), Option.bind_some, rof_f l hl hg _ (by omega), Option.bind_some, beq_self_eq_true]
end Go.Proofs.YtpmebnkjcekmmaaGreatDoor
