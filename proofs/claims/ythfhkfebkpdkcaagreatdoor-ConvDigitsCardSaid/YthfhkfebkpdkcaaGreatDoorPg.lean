import Derived.Test.YthfhkfebkpdkcaaGreatDoorVals
import Derived.Test.YthfhkfebkpdkcaaGreatDoorP14
namespace Go.Proofs.YthfhkfebkpdkcaaGreatDoor
open Go.RowKit Go.Lib Go.Proofs.YthfhkfebkpdkcaaGreatDoorW.PrintWords

/-! ### ConvDigits: texts with zeros ahead, and with junk put in -/
/-- A byte that stands in no number's text. -/
def Junk (c : UInt8) : Prop := 57 < c.toNat ∨ c.toNat < 48 ∧ c.toNat ≠ 45
theorem junk_not_dig {c : UInt8} (h : Junk c) : isDig c = false := by
  unfold isDig
  unfold Junk at h
  rw [Bool.and_eq_false_iff, decide_eq_false_iff_not, decide_eq_false_iff_not]
  omega
theorem not_digits {l : List UInt8} {c : UInt8} (hc : c ∈ l) (h : isDig c = false) : ¬ isDigits l = true := by
  unfold isDigits
  intro q
  simp only [Bool.and_eq_true, List.all_eq_true] at q
  have := q.2 c hc
  rw [h] at this
  cases this
theorem junk_trim {l : List UInt8} {c : UInt8} (hc : c ∈ l) (h : Junk c) : c ∈ trimMinus l := by
  match l, hc with
  | d :: r, hc =>
    by_cases d45 : d = 45
    · subst d45
      rw [trimMinus_neg]
      rcases List.mem_cons.1 hc with rfl | hr
      · unfold Junk at h
        exact absurd h (by decide)
      · exact hr
    · rw [trimMinus_plain d r d45]
      exact hc
theorem no_number {t : ByteArray} {c : UInt8} (hc : c ∈ t.data.toList) (h : Junk c) (hv : validV 4 0 t = true) :
    convApply 5 4 0 t = (0, 0, ⟨#[]⟩, 61) ∧ convApply 6 4 0 t = (0, 0, ⟨#[]⟩, 61) := by
  constructor
  · have e : convApply 5 4 0 t = convDo 5 0 t := if_neg (by rintro (q | q | q); omega; rw [hv] at q; cases q; exact q rfl)
    rw [e, conv5_no 0 (not_digits hc (junk_not_dig h))]
  · have e : convApply 6 4 0 t = convDo 6 0 t := if_neg (by rintro (q | q | q); omega; rw [hv] at q; cases q; exact q rfl)
    rw [e, conv6_no 0 (not_digits (junk_trim hc h) (junk_not_dig h))]
theorem digits_j6 (k : Nat) (junk : ByteArray) (at_ : Int) (b : Bool) (r0 r1 : Int) (u : ByteArray) (hj : junk.size ≤ 1048576) (hu : u.size ≤ 21)
    (hb : b = false → 0 ≤ at_ ∧ at_ ≤ u.size ∧ ∃ c ∈ junk.data.toList, Junk c) :
    P.stratumlaw06_ConvDigits.j6 (k + 1) junk at_ b r0 r1 u = some true := by
  rw [P.stratumlaw06_ConvDigits.j6]
  cases b with
  | true => rw [if_pos rfl]
  | false =>
    obtain ⟨h0, h1, c, hc, hJ⟩ := hb rfl
    rw [if_neg (by decide), if_pos h0, if_pos h1]
    have z1 : (u.extract 0 at_.toNat).size ≤ 21 := by rw [ByteArray.size_extract]; omega
    have z2 : (u.extract at_.toNat u.size).size ≤ 21 := by rw [ByteArray.size_extract]; omega
    generalize u.extract 0 at_.toNat = p at z1 ⊢
    generalize u.extract at_.toNat u.size = q at z2 ⊢
    have z3 : (p ++ junk).size = p.size + junk.size := ByteArray.size_append
    have z4 : ((p ++ junk) ++ q).size = p.size + junk.size + q.size := by rw [ByteArray.size_append, z3]
    rw [if_pos (by omega), if_pos (by omega)]
    have hm : c ∈ ((p ++ junk) ++ q).data.toList := by
      simp only [ByteArray.data_append, Array.toList_append, List.mem_append]
      exact .inl (.inr hc)
    generalize (p ++ junk) ++ q = t at z4 hm ⊢
    have fv : kind_Valid.f 4 0 t = some (validV 4 0 t) := if_pos (by omega)
    have f5 : conv_Apply.f 5 4 0 t = some (convApply 5 4 0 t) := if_pos ⟨by decide, by decide, by omega⟩
    have f6 : conv_Apply.f 6 4 0 t = some (convApply 6 4 0 t) := if_pos ⟨by decide, by decide, by omega⟩
    rw [fv, f5, f6, Option.bind_some, Option.bind_some, Option.bind_some]
    by_cases v : validV 4 0 t = true
    · obtain ⟨e5, e6⟩ := no_number hm hJ v
      rw [if_pos v, e5, e6, if_pos rfl]
      rfl
    · rw [if_neg v]
theorem bt_mem (s : ByteArray) (i : Nat) (h : i < s.size) : ∃ c ∈ s.data.toList, bt s (i : Int) = (c.toNat : Int) := by
  refine ⟨s[i], ?_, ?_⟩
  · have : s[i] = s.data.toList[i]'(by simpa using h) := by simp [ByteArray.getElem_eq_getElem_data]
    rw [this]
    exact List.getElem_mem _
  · exact (bt_at s (i : Int) (by simpa using h)).symm
theorem digits_l1 (junk : ByteArray) (at_ : Int) (r0 r1 : Int) (u : ByteArray) (hj : junk.size ≤ 1048576) (hu : u.size ≤ 21) :
    ∀ (d k i : Nat) (b : Bool), junk.size - i = d → i ≤ junk.size → d + 2 ≤ k → (b = true → ∃ c ∈ junk.data.toList, Junk c) →
    P.stratumlaw06_ConvDigits.l1 k junk at_ b (i : Int) r0 r1 u = some true := by
  intro d
  induction d with
  | zero =>
    intro k i b hd hi hk hb
    obtain ⟨k, rfl⟩ : ∃ q, k = q + 2 := ⟨k - 2, by omega⟩
    rw [P.stratumlaw06_ConvDigits.l1, if_neg (by omega)]
    cases b with
    | false =>
      rw [if_neg (by decide)]
      exact digits_j6 k junk at_ true r0 r1 u hj hu (fun q => by cases q)
    | true =>
      rw [if_pos rfl]
      by_cases c : at_ < 0
      · rw [if_pos c]
        exact digits_j6 k junk at_ true r0 r1 u hj hu (fun q => by cases q)
      · rw [if_neg c]
        refine digits_j6 k junk at_ _ r0 r1 u hj hu fun q => ⟨by omega, ?_, hb rfl⟩
        have := of_decide_eq_false q
        omega
  | succ d ih =>
    intro k i b hd hi hk hb
    obtain ⟨k, rfl⟩ : ∃ q, k = q + 1 := ⟨k - 1, by omega⟩
    have h : i < junk.size := by omega
    have e : wrap64 ((i : Int) + 1) = ((i + 1 : Nat) : Int) := by unfold wrap64; omega
    have next : ∀ b', (b' = true → ∃ c ∈ junk.data.toList, Junk c) → P.stratumlaw06_ConvDigits.l1 k junk at_ b' (wrap64 ((i : Int) + 1)) r0 r1 u = some true := by
      intro b' hb'
      rw [e]
      exact ih k (i + 1) b' (by clear e; omega) h (by clear e; omega) hb'
    clear e
    rw [P.stratumlaw06_ConvDigits.l1, if_pos (by omega)]
    cases b with
    | true =>
      rw [if_pos rfl]
      exact next true hb
    | false =>
      obtain ⟨c, hc, ec⟩ := bt_mem junk i h
      rw [if_neg (by decide), if_pos (by omega), ec]
      by_cases g : (c.toNat : Int) > 57
      · rw [if_pos g]
        exact next true fun _ => ⟨c, hc, .inl (by omega)⟩
      rw [if_neg g]
      by_cases l : (c.toNat : Int) < 48
      · rw [if_pos l]
        refine next _ fun q => ⟨c, hc, .inr ⟨by omega, ?_⟩⟩
        intro e45
        rw [e45] at q
        exact absurd q (by decide)
      · rw [if_neg l]
        exact next false (fun q => by cases q)

/-! ### Zeros ahead -/
theorem dval_zeros : ∀ z : Nat, dval 0 (List.replicate z 48) = 0
  | 0 => dval_nil 0
  | z + 1 => by rw [List.replicate_succ, dval_cons]; exact dval_zeros z
theorem pad_digits {l : List UInt8} (z : Nat) (h : isDigits l = true) : isDigits (List.replicate z 48 ++ l) = true := by
  unfold isDigits at h ⊢
  simp only [Bool.and_eq_true, Bool.not_eq_true', List.all_eq_true] at h ⊢
  obtain ⟨hne, hall⟩ := h
  constructor
  · cases l with
    | nil => simp at hne
    | cons a r => simp
  · intro c hc
    rcases List.mem_append.1 hc with q | q
    · rw [(List.mem_replicate.1 q).2]
      decide
    · exact hall c q
theorem pad_parse (z n : Nat) (h : n < 18446744073709551616) : Lib.parseUintB 64 (List.replicate z 48 ++ Lib.decDigits n) = .ok n := by
  rw [parse_digits (pad_digits z (dec_is n)), dval_append, dval_zeros, dec_val, if_pos (by omega)]
theorem pad_ascii {l : List UInt8} (z : Nat) (h : ∀ c ∈ l, c.toNat < 128) : ∀ c ∈ List.replicate z 48 ++ l, c.toNat < 128 := by
  intro c hc
  rcases List.mem_append.1 hc with q | q
  · rw [(List.mem_replicate.1 q).2]
    decide
  · exact h c q
theorem zeros_data (z : Nat) : (strOfNums (List.replicate z 48)).data.toList = List.replicate z 48 := by
  rw [strOfNums_data, List.map_replicate]
  rfl
theorem take5 (z : Nat) (n : Int) (h0 : 0 ≤ n) (h1 : n < 18446744073709551616) :
    convApply 5 4 0 (strOfNums (List.replicate z 48) ++ ⟨(Lib.decDigits n.toNat).toArray⟩) = (1, n, ⟨#[]⟩, 0) := by
  have ed : (strOfNums (List.replicate z 48) ++ ⟨(Lib.decDigits n.toNat).toArray⟩ : ByteArray).data.toList = List.replicate z 48 ++ Lib.decDigits n.toNat := by
    rw [ByteArray.data_append, Array.toList_append, zeros_data]
  generalize strOfNums (List.replicate z 48) ++ ⟨(Lib.decDigits n.toNat).toArray⟩ = t at ed ⊢
  have hv : validV 4 0 t = true := (validV_text t).trans (ascii_valid (by rw [ed]; exact pad_ascii z (dec_ascii _)))
  have e : convApply 5 4 0 t = convDo 5 0 t := if_neg (by rintro (q | q | q); omega; rw [hv] at q; cases q; exact q rfl)
  rw [e, conv5_ok 0 (u := n.toNat) (by rw [ed]; exact pad_digits z (dec_is _)) (by rw [ed]; exact pad_parse z _ (by omega)), Int.toNat_of_nonneg h0]
theorem take6_minus (z : Nat) (n : Int) (h0 : 0 ≤ n) (h1 : n < 18446744073709551616) (hn : wrap64 n < 0) (d : ByteArray) (hd : d.data.toList = Lib.decDigits (wrap64 n).natAbs) :
    convApply 6 4 0 ((⟨#[45]⟩ : ByteArray) ++ strOfNums (List.replicate z 48) ++ d) = (2, n, ⟨#[]⟩, 0) := by
  have b := wrap_bounds n
  have ed : ((⟨#[45]⟩ : ByteArray) ++ strOfNums (List.replicate z 48) ++ d).data.toList = 45 :: (List.replicate z 48 ++ Lib.decDigits (wrap64 n).natAbs) := by
    rw [ByteArray.data_append, Array.toList_append, ByteArray.data_append, Array.toList_append, zeros_data, hd]
    rfl
  generalize (⟨#[45]⟩ : ByteArray) ++ strOfNums (List.replicate z 48) ++ d = t at ed ⊢
  have hv : validV 4 0 t = true := (validV_text t).trans (ascii_valid (by
    rw [ed]
    intro c hc
    rcases List.mem_cons.1 hc with q | q
    · rw [q]; decide
    · exact pad_ascii z (dec_ascii _) c q))
  have e : convApply 6 4 0 t = convDo 6 0 t := if_neg (by rintro (q | q | q); omega; rw [hv] at q; cases q; exact q rfl)
  have hp : Lib.parseIntB 64 t.data.toList = .ok (wrap64 n) := by
    rw [ed, Lib.parseIntB_minus, pad_parse z _ (by omega)]
    unfold Lib.signedC
    simp only
    rw [if_neg (by omega)]
    congr 1
    omega
  rw [e, conv6_ok 0 (v := wrap64 n) (by rw [ed, trimMinus_neg]; exact pad_digits z (dec_is _)) hp, wrapU_wrap n h0 h1]
theorem take6_plain (z : Nat) (n : Int) (h0 : 0 ≤ n) (h1 : n < 18446744073709551616) (hn : ¬ wrap64 n < 0) :
    convApply 6 4 0 ((⟨#[]⟩ : ByteArray) ++ strOfNums (List.replicate z 48) ++ ⟨(Lib.decDigits (wrap64 n).toNat).toArray⟩) = (2, n, ⟨#[]⟩, 0) := by
  have b := wrap_bounds n
  have ed : ((⟨#[]⟩ : ByteArray) ++ strOfNums (List.replicate z 48) ++ ⟨(Lib.decDigits (wrap64 n).toNat).toArray⟩).data.toList = List.replicate z 48 ++ Lib.decDigits (wrap64 n).toNat := by
    rw [ByteArray.data_append, Array.toList_append, ByteArray.data_append, Array.toList_append, zeros_data]
    rfl
  generalize (⟨#[]⟩ : ByteArray) ++ strOfNums (List.replicate z 48) ++ ⟨(Lib.decDigits (wrap64 n).toNat).toArray⟩ = t at ed ⊢
  have hv : validV 4 0 t = true := (validV_text t).trans (ascii_valid (by rw [ed]; exact pad_ascii z (dec_ascii _)))
  have e : convApply 6 4 0 t = convDo 6 0 t := if_neg (by rintro (q | q | q); omega; rw [hv] at q; cases q; exact q rfl)
  have hp : Lib.parseIntB 64 t.data.toList = .ok (wrap64 n) := by
    rw [ed, parseInt_plain (pad_digits z (dec_is _)), pad_parse z _ (by omega)]
    unfold Lib.signlessC
    simp only
    rw [if_neg (by omega)]
    congr 1
    omega
  rw [e, conv6_ok 0 (v := wrap64 n) (by rw [ed, trim_digits (pad_digits z (dec_is _))]; exact pad_digits z (dec_is _)) hp, wrapU_wrap n h0 h1]

theorem digits_j3 (k : Nat) (n : Int) (junk : ByteArray) (at_ : Int) (z : Nat) (sign d : ByteArray) (h0 : 0 ≤ n) (h1 : n < 18446744073709551616) (hz : z ≤ 1048576) (hj : junk.size ≤ 1048576)
    (hs : sign.size ≤ 1) (hd : d.size ≤ 21) (h6 : convApply 6 4 0 (sign ++ strOfNums (List.replicate z 48) ++ d) = (2, n, ⟨#[]⟩, 0)) :
    P.stratumlaw06_ConvDigits.j3 (junk.size + k + 4) n junk at_ (List.replicate z 48) sign d 4 0 ⟨(Lib.decDigits n.toNat).toArray⟩ = some true := by
  have hu : (⟨(Lib.decDigits n.toNat).toArray⟩ : ByteArray).size ≤ 20 := by
    rw [size_mk]
    exact dec_small (by omega)
  have h5 := take5 z n h0 h1
  generalize (⟨(Lib.decDigits n.toNat).toArray⟩ : ByteArray) = u at hu h5 ⊢
  have zs : (strOfNums (List.replicate z 48)).size = z := by rw [strOfNums_size, List.length_replicate]
  rw [P.stratumlaw06_ConvDigits.j3]
  generalize strOfNums (List.replicate z 48) = pad at zs h5 h6 ⊢
  have q1 : (sign ++ pad).size = sign.size + pad.size := ByteArray.size_append
  have q2 : ((sign ++ pad) ++ d).size = sign.size + pad.size + d.size := by rw [ByteArray.size_append, q1]
  have q3 : (pad ++ u).size = pad.size + u.size := ByteArray.size_append
  rw [if_pos (by omega), if_pos (by omega)]
  have f6 : conv_Apply.f 6 4 0 ((sign ++ pad) ++ d) = some (2, n, ⟨#[]⟩, 0) := (if_pos ⟨by decide, by decide, by omega⟩).trans (congrArg some h6)
  have f5 : conv_Apply.f 5 4 0 (pad ++ u) = some (1, n, ⟨#[]⟩, 0) := (if_pos ⟨by decide, by decide, by omega⟩).trans (congrArg some h5)
  rw [f6, Option.bind_some, if_pos (by omega), f5, Option.bind_some, if_pos rfl, if_pos rfl, if_neg (by simp)]
  rw [show (!((1 : Int) == 1) || (!(n == n) || (!((⟨#[]⟩ : ByteArray).toList == ([] : List UInt8))))) = false by simp]
  rw [show junk.size + k + 3 = (junk.size + k + 2) + 1 by omega, P.stratumlaw06_ConvDigits.j4, if_neg (by decide)]
  exact digits_l1 junk at_ 4 0 u hj (by omega) junk.size _ 0 false (by omega) (by omega) (by omega) (fun q => by cases q)

theorem set_zero (i m : Nat) : (List.replicate i (48 : Int) ++ List.replicate (m + 1) (0 : Int)).set i 48 = List.replicate (i + 1) 48 ++ List.replicate m 0 := by
  rw [List.set_append_right _ _ (by simp), List.length_replicate, Nat.sub_self, List.replicate_succ, List.set_cons_zero, List.replicate_succ', List.append_assoc]
  rfl
theorem extract_one (c : UInt8) (l : List UInt8) : ((⟨(c :: l).toArray⟩ : ByteArray).extract 1 (⟨(c :: l).toArray⟩ : ByteArray).size).data.toList = l := by
  rw [ByteArray.data_extract, Array.toList_extract, size_mk, List.extract]
  simp
theorem digits_l0 (n : Int) (z : Nat) (junk : ByteArray) (at_ : Int) (h0 : 0 ≤ n) (h1 : n < 18446744073709551616) (hz : z ≤ 1048576) (hj : junk.size ≤ 1048576) :
    ∀ (m k i : Nat), z = i + m → junk.size + m + 5 ≤ k →
    P.stratumlaw06_ConvDigits.l0 k n (z : Int) junk at_ (List.replicate i 48 ++ List.replicate m 0) (i : Int) 4 0 ⟨(Lib.itoa (wrap64 n)).toArray⟩ 4 0 ⟨(Lib.decDigits n.toNat).toArray⟩ = some true := by
  intro m
  induction m with
  | zero =>
    intro k i hi hk
    obtain ⟨k, rfl⟩ : ∃ q, k = junk.size + q + 5 := ⟨k - (junk.size + 5), by omega⟩
    obtain rfl : z = i := by omega
    rw [P.stratumlaw06_ConvDigits.l0, if_neg (by omega), List.replicate_zero, List.append_nil]
    have b := wrap_bounds n
    have hsz := itoa_small (wrap64 n) b.1 b.2
    by_cases hn : wrap64 n < 0
    · have ei : Lib.itoa (wrap64 n) = 45 :: Lib.decDigits (wrap64 n).natAbs := by unfold Lib.itoa; rw [if_pos hn]
      rw [ei] at hsz ⊢
      have hl : (⟨(45 :: Lib.decDigits (wrap64 n).natAbs).toArray⟩ : ByteArray).size = (Lib.decDigits (wrap64 n).natAbs).length + 1 := by rw [size_mk, List.length_cons]
      have hb : bt (⟨(45 :: Lib.decDigits (wrap64 n).natAbs).toArray⟩ : ByteArray) 0 = 45 := by
        rw [← bt_at _ 0 (by rw [hl]; simp)]
        rfl
      rw [if_pos (by omega), if_pos hb, if_pos (by omega)]
      have ex := extract_one 45 (Lib.decDigits (wrap64 n).natAbs)
      refine digits_j3 k n junk at_ z _ _ h0 h1 hz hj (by decide) ?_ (take6_minus z n h0 h1 hn _ ex)
      rw [ByteArray.size_extract, hl]
      rw [List.length_cons] at hsz
      omega
    · have ei : Lib.itoa (wrap64 n) = Lib.decDigits (wrap64 n).toNat := by unfold Lib.itoa; rw [if_neg hn]
      rw [ei] at hsz ⊢
      obtain ⟨c, r, ec, hc⟩ := dec_first (wrap64 n).toNat
      have hl : (⟨(Lib.decDigits (wrap64 n).toNat).toArray⟩ : ByteArray).size = r.length + 1 := by rw [size_mk, ec, List.length_cons]
      have hb : bt (⟨(Lib.decDigits (wrap64 n).toNat).toArray⟩ : ByteArray) 0 = c.toNat := by
        rw [← bt_at _ 0 (by rw [hl]; simp)]
        simp [ec, ByteArray.getElem_eq_getElem_data]
      have hcb := dig_bounds hc
      rw [if_pos (by omega), if_neg (by omega)]
      exact digits_j3 k n junk at_ z _ _ h0 h1 hz hj (by decide) (by rw [size_mk]; exact hsz) (take6_plain z n h0 h1 hn)
  | succ m ih =>
    intro k i hi hk
    obtain ⟨k, rfl⟩ : ∃ q, k = q + 1 := ⟨k - 1, by omega⟩
    have e : wrap64 ((i : Int) + 1) = ((i + 1 : Nat) : Int) := by unfold wrap64; omega
    rw [P.stratumlaw06_ConvDigits.l0, if_pos (by omega), if_pos (by omega), if_pos (by rw [List.length_append, List.length_replicate, List.length_replicate]; omega), Int.toNat_natCast, set_zero, e]
    exact ih k (i + 1) (by clear e; omega) (by clear e; omega)

theorem toList_ne {l : List UInt8} (h : l ≠ []) : ¬ (⟨l.toArray⟩ : ByteArray).toList = ([] : List UInt8) := by
  rw [Lib.toList_data]
  simpa using h
theorem itoa_ne (v : Int) : Lib.itoa v ≠ [] := by
  unfold Lib.itoa
  split
  · simp
  · exact dec_ne _
theorem apply_num (x kd n : Int) (hk : kd = 1 ∨ kd = 2) (hx : 1 ≤ x ∧ x ≤ 12) (hd : kd = (convD x).1) : convApply x kd n ⟨#[]⟩ = convDo x n ⟨#[]⟩ :=
  if_neg (by rintro (q | q | q); omega; rw [validV_num hk] at q; cases q; exact q hd)
theorem text4 (n : Int) : convApply 4 2 n ⟨#[]⟩ = (4, 0, ⟨(Lib.itoa (wrap64 n)).toArray⟩, 0) :=
  (apply_num 4 2 n (.inr rfl) (by decide) rfl).trans rfl
theorem digits_true (n z : Int) (junk : ByteArray) (at_ : Int) (h0 : 0 ≤ n) (h1 : n < 18446744073709551616) : ∃ k, P.stratumlaw06_ConvDigits.f k n z junk at_ = some true := by
  refine ⟨junk.size + z.toNat + 7, ?_⟩
  unfold P.stratumlaw06_ConvDigits.f stratumlaw06_awake.f
  rw [Option.bind_some, if_pos rfl]
  have yes : P.stratumlaw06_ConvDigits.j0 (junk.size + z.toNat + 7) n z junk at_ true true = some true := by
    rw [P.stratumlaw06_ConvDigits.j0, if_pos rfl]
  by_cases c1 : z < 0
  · rw [if_pos c1, yes]
  rw [if_neg c1]
  by_cases c2 : z > 1048576
  · rw [if_pos c2, yes]
  rw [if_neg c2]
  by_cases c3 : (junk.size : Int) > 1048576
  · rw [decide_eq_true c3, yes]
  rw [decide_eq_false c3]
  clear yes
  rw [P.stratumlaw06_ConvDigits.j0, if_neg (by decide)]
  have f4 : conv_Apply.f 4 2 n ⟨#[]⟩ = some (4, 0, ⟨(Lib.itoa (wrap64 n)).toArray⟩, 0) := (if_pos ⟨h0, h1, by decide⟩).trans (congrArg some (text4 n))
  have f3 : conv_Apply.f 3 1 n ⟨#[]⟩ = some (4, 0, ⟨(Lib.decDigits n.toNat).toArray⟩, 0) := (if_pos ⟨h0, h1, by decide⟩).trans (congrArg some ((apply_num 3 1 n (.inl rfl) (by decide) rfl).trans rfl))
  rw [f4, f3, Option.bind_some, Option.bind_some, if_pos rfl, if_pos rfl, if_neg (toList_ne (itoa_ne _)), beq_eq_false_iff_ne.2 (toList_ne (dec_ne n.toNat))]
  rw [show junk.size + z.toNat + 6 = (junk.size + z.toNat + 5) + 1 by omega, P.stratumlaw06_ConvDigits.j1, if_neg (by decide), if_pos (by omega), if_pos (by omega)]
  have := digits_l0 n z.toNat junk at_ h0 h1 (by omega) (by omega) z.toNat (junk.size + z.toNat + 5) 0 (by omega) (by omega)
  rw [Int.toNat_of_nonneg (by omega)] at this
  exact this
end Go.Proofs.YthfhkfebkpdkcaaGreatDoor
