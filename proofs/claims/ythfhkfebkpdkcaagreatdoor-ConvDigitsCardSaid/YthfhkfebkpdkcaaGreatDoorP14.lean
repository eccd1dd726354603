/- Plain functions for Go functions of the program, each with a proof that the Go call comes to it (no condition but those that each theorem names). Written by a program of this session. -/
import Derived.Test.YthfhkfebkpdkcaaGreatDoorP0
import Derived.Test.YthfhkfebkpdkcaaGreatDoorP1
import Derived.Test.YthfhkfebkpdkcaaGreatDoorApply
import Derived.Test.YthfhkfebkpdkcaaGreatDoorAwake
import Derived.Test.YthfhkfebkpdkcaaGreatDoorPa
namespace Go.Proofs.YthfhkfebkpdkcaaGreatDoor.P
open Go.RowKit Go.Proofs.YthfhkfebkpdkcaaGreatDoorW.PrintWords Go.Proofs.YthfhkfebkpdkcaaGreatDoorW.PrintLast Go.Proofs.YthfhkfebkpdkcaaGreatDoorW.PrintMore
attribute [local go_sem] max2_int min2_int max_two min_two max_three min_three max_four min_four   -- for this text's walks alone
set_option linter.unusedVariables false
set_option linter.unusedSimpArgs false

attribute [local go_sem high] eqA27
/-! ### stratumlaw06_ConvDigits: function 4 -/
mutual
def stratumlaw06_ConvDigits.j0 : Nat → Int → Int → ByteArray → Int → Bool → Bool → Option (Bool)
 | 0, _, _, _, _, _, _ => none
 | k + 1, x0, x1, x2, x3, x9, x39 => if x39 = true then (some x9) else ((conv_Apply.f 4 2 x0 (⟨#[]⟩ : ByteArray)).bind fun bt193 => ((conv_Apply.f 3 1 x0 (⟨#[]⟩ : ByteArray)).bind fun bt198 => (if bt193.2.2.2 = 0 then (if bt198.2.2.2 = 0 then (if bt193.2.2.1.toList = ([] : List UInt8) then (stratumlaw06_ConvDigits.j1 k x0 x1 x2 x3 true bt193.1 bt193.2.1 bt193.2.2.1 bt198.1 bt198.2.1 bt198.2.2.1) else (stratumlaw06_ConvDigits.j1 k x0 x1 x2 x3 (bt198.2.2.1.toList == ([] : List UInt8)) bt193.1 bt193.2.1 bt193.2.2.1 bt198.1 bt198.2.1 bt198.2.2.1)) else (stratumlaw06_ConvDigits.j1 k x0 x1 x2 x3 true bt193.1 bt193.2.1 bt193.2.2.1 bt198.1 bt198.2.1 bt198.2.2.1)) else (stratumlaw06_ConvDigits.j1 k x0 x1 x2 x3 true bt193.1 bt193.2.1 bt193.2.2.1 bt198.1 bt198.2.1 bt198.2.2.1))))
def stratumlaw06_ConvDigits.j1 : Nat → Int → Int → ByteArray → Int → Bool → Int → Int → ByteArray → Int → Int → ByteArray → Option (Bool)
 | 0, _, _, _, _, _, _, _, _, _, _, _ => none
 | k + 1, x0, x1, x2, x3, x68, x198000, x198001, x198002, x203000, x203001, x203002 => if x68 = true then (some false) else (if 0 ≤ x1 then (if (x1 : Int).toNat ≤ 281474976710656 then (stratumlaw06_ConvDigits.l0 k x0 x1 x2 x3 (List.replicate (x1 : Int).toNat 0) 0 x198000 x198001 x198002 x203000 x203001 x203002) else (none)) else (none))
def stratumlaw06_ConvDigits.l0 : Nat → Int → Int → ByteArray → Int → List Int → Int → Int → Int → ByteArray → Int → Int → ByteArray → Option (Bool)
 | 0, _, _, _, _, _, _, _, _, _, _, _, _ => none
 | k + 1, x0, x1, x2, x3, x14, x15, x198000, x198001, x198002, x203000, x203001, x203002 => if x15 < x1 then (if 0 ≤ x15 then (if x15 < (x14.length : Int) then (stratumlaw06_ConvDigits.l0 k x0 x1 x2 x3 (x14.set (x15 : Int).toNat 48) (wrap64 (x15 + 1)) x198000 x198001 x198002 x203000 x203001 x203002) else (none)) else (none)) else (if 0 < (x198002.size : Int) then (if (bt x198002 0) = 45 then (if 1 ≤ (x198002.size : Int) then (stratumlaw06_ConvDigits.j3 k x0 x2 x3 x14 (⟨#[45]⟩ : ByteArray) (x198002.extract 1 x198002.size) x203000 x203001 x203002) else (none)) else (stratumlaw06_ConvDigits.j3 k x0 x2 x3 x14 (⟨#[]⟩ : ByteArray) x198002 x203000 x203001 x203002)) else (none))
def stratumlaw06_ConvDigits.j3 : Nat → Int → ByteArray → Int → List Int → ByteArray → ByteArray → Int → Int → ByteArray → Option (Bool)
 | 0, _, _, _, _, _, _, _, _, _ => none
 | k + 1, x0, x2, x3, x14, x16, x17, x203000, x203001, x203002 => if x16.size + (strOfNums x14).size ≤ 9223372036854775807 then (if (x16 ++ (strOfNums x14)).size + x17.size ≤ 9223372036854775807 then ((conv_Apply.f 6 4 0 ((x16 ++ (strOfNums x14)) ++ x17)).bind fun bt207 => (if (strOfNums x14).size + x203002.size ≤ 9223372036854775807 then ((conv_Apply.f 5 4 0 ((strOfNums x14) ++ x203002)).bind fun bt212 => (if bt207.2.2.2 = 0 then (if bt212.2.2.2 = 0 then (if (!(bt207.1 == 2) || (!(bt207.2.1 == x0) || (!(bt207.2.2.1.toList == ([] : List UInt8))))) = true then (stratumlaw06_ConvDigits.j4 k x2 x3 true x203000 x203001 x203002) else (stratumlaw06_ConvDigits.j4 k x2 x3 (!(bt212.1 == 1) || (!(bt212.2.1 == x0) || (!(bt212.2.2.1.toList == ([] : List UInt8))))) x203000 x203001 x203002)) else (stratumlaw06_ConvDigits.j4 k x2 x3 true x203000 x203001 x203002)) else (stratumlaw06_ConvDigits.j4 k x2 x3 true x203000 x203001 x203002))) else (none))) else (none)) else (none)
def stratumlaw06_ConvDigits.j4 : Nat → ByteArray → Int → Bool → Int → Int → ByteArray → Option (Bool)
 | 0, _, _, _, _, _, _ => none
 | k + 1, x2, x3, x126, x203000, x203001, x203002 => if x126 = true then (some false) else (stratumlaw06_ConvDigits.l1 k x2 x3 false 0 x203000 x203001 x203002)
def stratumlaw06_ConvDigits.l1 : Nat → ByteArray → Int → Bool → Int → Int → Int → ByteArray → Option (Bool)
 | 0, _, _, _, _, _, _, _ => none
 | k + 1, x2, x3, x20, x21, x203000, x203001, x203002 => if x21 < (x2.size : Int) then (if x20 = true then (stratumlaw06_ConvDigits.l1 k x2 x3 true (wrap64 (x21 + 1)) x203000 x203001 x203002) else (if 0 ≤ x21 then (if (bt x2 x21) > 57 then (stratumlaw06_ConvDigits.l1 k x2 x3 true (wrap64 (x21 + 1)) x203000 x203001 x203002) else (if (bt x2 x21) < 48 then (stratumlaw06_ConvDigits.l1 k x2 x3 ((bt x2 x21) != 45) (wrap64 (x21 + 1)) x203000 x203001 x203002) else (stratumlaw06_ConvDigits.l1 k x2 x3 false (wrap64 (x21 + 1)) x203000 x203001 x203002))) else (none))) else (if x20 = true then (if x3 < 0 then (stratumlaw06_ConvDigits.j6 k x2 x3 true x203000 x203001 x203002) else (stratumlaw06_ConvDigits.j6 k x2 x3 (decide (x3 > (x203002.size : Int))) x203000 x203001 x203002)) else (stratumlaw06_ConvDigits.j6 k x2 x3 true x203000 x203001 x203002))
def stratumlaw06_ConvDigits.j6 : Nat → ByteArray → Int → Bool → Int → Int → ByteArray → Option (Bool)
 | 0, _, _, _, _, _, _ => none
 | k + 1, x2, x3, x164, x203000, x203001, x203002 => if x164 = true then (some true) else (if 0 ≤ x3 then (if x3 ≤ (x203002.size : Int) then (if (x203002.extract 0 (x3 : Int).toNat).size + x2.size ≤ 9223372036854775807 then (if ((x203002.extract 0 (x3 : Int).toNat) ++ x2).size + (x203002.extract (x3 : Int).toNat x203002.size).size ≤ 9223372036854775807 then ((kind_Valid.f 4 0 (((x203002.extract 0 (x3 : Int).toNat) ++ x2) ++ (x203002.extract (x3 : Int).toNat x203002.size))).bind fun t218 => ((conv_Apply.f 5 4 0 (((x203002.extract 0 (x3 : Int).toNat) ++ x2) ++ (x203002.extract (x3 : Int).toNat x203002.size))).bind fun bt219 => ((conv_Apply.f 6 4 0 (((x203002.extract 0 (x3 : Int).toNat) ++ x2) ++ (x203002.extract (x3 : Int).toNat x203002.size))).bind fun bt223 => (if t218 = true then (if bt219.2.2.2 = 61 then (some (bt223.2.2.2 == 61)) else (some false)) else (some true))))) else (none)) else (none)) else (none)) else (none))
end
def stratumlaw06_ConvDigits.f (k : Nat) (a0 : Int) (a1 : Int) (a2 : ByteArray) (a3 : Int) : Option (Bool) := (stratumlaw06_awake.f).bind fun t192 => (if t192 = true then (if a1 < 0 then (stratumlaw06_ConvDigits.j0 k a0 a1 a2 a3 t192 true) else (if a1 > 1048576 then (stratumlaw06_ConvDigits.j0 k a0 a1 a2 a3 t192 true) else (stratumlaw06_ConvDigits.j0 k a0 a1 a2 a3 t192 (decide ((a2.size : Int) > 1048576))))) else (stratumlaw06_ConvDigits.j0 k a0 a1 a2 a3 t192 true))
theorem stratumlaw06_ConvDigits.mono_l : ∀ k, (∀ y0 y1 y2 y3 y4 y5, LeO (stratumlaw06_ConvDigits.j0 k y0 y1 y2 y3 y4 y5) (stratumlaw06_ConvDigits.j0 (k + 1) y0 y1 y2 y3 y4 y5)) ∧ (∀ y0 y1 y2 y3 y4 y5 y6 y7 y8 y9 y10, LeO (stratumlaw06_ConvDigits.j1 k y0 y1 y2 y3 y4 y5 y6 y7 y8 y9 y10) (stratumlaw06_ConvDigits.j1 (k + 1) y0 y1 y2 y3 y4 y5 y6 y7 y8 y9 y10)) ∧ (∀ y0 y1 y2 y3 y4 y5 y6 y7 y8 y9 y10 y11, LeO (stratumlaw06_ConvDigits.l0 k y0 y1 y2 y3 y4 y5 y6 y7 y8 y9 y10 y11) (stratumlaw06_ConvDigits.l0 (k + 1) y0 y1 y2 y3 y4 y5 y6 y7 y8 y9 y10 y11)) ∧ (∀ y0 y1 y2 y3 y4 y5 y6 y7 y8, LeO (stratumlaw06_ConvDigits.j3 k y0 y1 y2 y3 y4 y5 y6 y7 y8) (stratumlaw06_ConvDigits.j3 (k + 1) y0 y1 y2 y3 y4 y5 y6 y7 y8)) ∧ (∀ y0 y1 y2 y3 y4 y5, LeO (stratumlaw06_ConvDigits.j4 k y0 y1 y2 y3 y4 y5) (stratumlaw06_ConvDigits.j4 (k + 1) y0 y1 y2 y3 y4 y5)) ∧ (∀ y0 y1 y2 y3 y4 y5 y6, LeO (stratumlaw06_ConvDigits.l1 k y0 y1 y2 y3 y4 y5 y6) (stratumlaw06_ConvDigits.l1 (k + 1) y0 y1 y2 y3 y4 y5 y6)) ∧ (∀ y0 y1 y2 y3 y4 y5, LeO (stratumlaw06_ConvDigits.j6 k y0 y1 y2 y3 y4 y5) (stratumlaw06_ConvDigits.j6 (k + 1) y0 y1 y2 y3 y4 y5))
 | 0 => ⟨fun _ _ _ _ _ _ r h => by simp [stratumlaw06_ConvDigits.j0] at h, fun _ _ _ _ _ _ _ _ _ _ _ r h => by simp [stratumlaw06_ConvDigits.j1] at h, fun _ _ _ _ _ _ _ _ _ _ _ _ r h => by simp [stratumlaw06_ConvDigits.l0] at h, fun _ _ _ _ _ _ _ _ _ r h => by simp [stratumlaw06_ConvDigits.j3] at h, fun _ _ _ _ _ _ r h => by simp [stratumlaw06_ConvDigits.j4] at h, fun _ _ _ _ _ _ _ r h => by simp [stratumlaw06_ConvDigits.l1] at h, fun _ _ _ _ _ _ r h => by simp [stratumlaw06_ConvDigits.j6] at h⟩
 | k + 1 => by
  obtain ⟨ih0, ih1, ih2, ih3, ih4, ih5, ih6⟩ := stratumlaw06_ConvDigits.mono_l k
  refine ⟨?_, ?_, ?_, ?_, ?_, ?_, ?_⟩
  ·intro y0 y1 y2 y3 y4 y5
   unfold stratumlaw06_ConvDigits.j0
   repeat' first
   | (with_reducible exact ih0 _ _ _ _ _ _)
   | (with_reducible exact ih1 _ _ _ _ _ _ _ _ _ _ _)
   | (with_reducible exact ih2 _ _ _ _ _ _ _ _ _ _ _ _)
   | (with_reducible exact ih3 _ _ _ _ _ _ _ _ _)
   | (with_reducible exact ih4 _ _ _ _ _ _)
   | (with_reducible exact ih5 _ _ _ _ _ _ _)
   | (with_reducible exact ih6 _ _ _ _ _ _)
   | (with_reducible exact LeO.refl _)
   | (with_reducible exact LeO.none _)
   | (with_reducible refine LeO.ite ?_ ?_)
   | (with_reducible refine LeO.bind ?_ (fun _ => ?_))
   | exact ih0 _ _ _ _ _ _
   | exact ih1 _ _ _ _ _ _ _ _ _ _ _
   | exact ih2 _ _ _ _ _ _ _ _ _ _ _ _
   | exact ih3 _ _ _ _ _ _ _ _ _
   | exact ih4 _ _ _ _ _ _
   | exact ih5 _ _ _ _ _ _ _
   | exact ih6 _ _ _ _ _ _
   | exact LeO.none _
   | refine LeO.ite ?_ ?_
   | refine LeO.bind ?_ (fun _ => ?_)
  ·intro y0 y1 y2 y3 y4 y5 y6 y7 y8 y9 y10
   unfold stratumlaw06_ConvDigits.j1
   repeat' first
   | (with_reducible exact ih0 _ _ _ _ _ _)
   | (with_reducible exact ih1 _ _ _ _ _ _ _ _ _ _ _)
   | (with_reducible exact ih2 _ _ _ _ _ _ _ _ _ _ _ _)
   | (with_reducible exact ih3 _ _ _ _ _ _ _ _ _)
   | (with_reducible exact ih4 _ _ _ _ _ _)
   | (with_reducible exact ih5 _ _ _ _ _ _ _)
   | (with_reducible exact ih6 _ _ _ _ _ _)
   | (with_reducible exact LeO.refl _)
   | (with_reducible exact LeO.none _)
   | (with_reducible refine LeO.ite ?_ ?_)
   | (with_reducible refine LeO.bind ?_ (fun _ => ?_))
   | exact ih0 _ _ _ _ _ _
   | exact ih1 _ _ _ _ _ _ _ _ _ _ _
   | exact ih2 _ _ _ _ _ _ _ _ _ _ _ _
   | exact ih3 _ _ _ _ _ _ _ _ _
   | exact ih4 _ _ _ _ _ _
   | exact ih5 _ _ _ _ _ _ _
   | exact ih6 _ _ _ _ _ _
   | exact LeO.none _
   | refine LeO.ite ?_ ?_
   | refine LeO.bind ?_ (fun _ => ?_)
  ·intro y0 y1 y2 y3 y4 y5 y6 y7 y8 y9 y10 y11
   unfold stratumlaw06_ConvDigits.l0
   repeat' first
   | (with_reducible exact ih0 _ _ _ _ _ _)
   | (with_reducible exact ih1 _ _ _ _ _ _ _ _ _ _ _)
   | (with_reducible exact ih2 _ _ _ _ _ _ _ _ _ _ _ _)
   | (with_reducible exact ih3 _ _ _ _ _ _ _ _ _)
   | (with_reducible exact ih4 _ _ _ _ _ _)
   | (with_reducible exact ih5 _ _ _ _ _ _ _)
   | (with_reducible exact ih6 _ _ _ _ _ _)
   | (with_reducible exact LeO.refl _)
   | (with_reducible exact LeO.none _)
   | (with_reducible refine LeO.ite ?_ ?_)
   | (with_reducible refine LeO.bind ?_ (fun _ => ?_))
   | exact ih0 _ _ _ _ _ _
   | exact ih1 _ _ _ _ _ _ _ _ _ _ _
   | exact ih2 _ _ _ _ _ _ _ _ _ _ _ _
   | exact ih3 _ _ _ _ _ _ _ _ _
   | exact ih4 _ _ _ _ _ _
   | exact ih5 _ _ _ _ _ _ _
   | exact ih6 _ _ _ _ _ _
   | exact LeO.none _
   | refine LeO.ite ?_ ?_
   | refine LeO.bind ?_ (fun _ => ?_)
  ·intro y0 y1 y2 y3 y4 y5 y6 y7 y8
   unfold stratumlaw06_ConvDigits.j3
   repeat' first
   | (with_reducible exact ih0 _ _ _ _ _ _)
   | (with_reducible exact ih1 _ _ _ _ _ _ _ _ _ _ _)
   | (with_reducible exact ih2 _ _ _ _ _ _ _ _ _ _ _ _)
   | (with_reducible exact ih3 _ _ _ _ _ _ _ _ _)
   | (with_reducible exact ih4 _ _ _ _ _ _)
   | (with_reducible exact ih5 _ _ _ _ _ _ _)
   | (with_reducible exact ih6 _ _ _ _ _ _)
   | (with_reducible exact LeO.refl _)
   | (with_reducible exact LeO.none _)
   | (with_reducible refine LeO.ite ?_ ?_)
   | (with_reducible refine LeO.bind ?_ (fun _ => ?_))
   | exact ih0 _ _ _ _ _ _
   | exact ih1 _ _ _ _ _ _ _ _ _ _ _
   | exact ih2 _ _ _ _ _ _ _ _ _ _ _ _
   | exact ih3 _ _ _ _ _ _ _ _ _
   | exact ih4 _ _ _ _ _ _
   | exact ih5 _ _ _ _ _ _ _
   | exact ih6 _ _ _ _ _ _
   | exact LeO.none _
   | refine LeO.ite ?_ ?_
   | refine LeO.bind ?_ (fun _ => ?_)
  ·intro y0 y1 y2 y3 y4 y5
   unfold stratumlaw06_ConvDigits.j4
   repeat' first
   | (with_reducible exact ih0 _ _ _ _ _ _)
   | (with_reducible exact ih1 _ _ _ _ _ _ _ _ _ _ _)
   | (with_reducible exact ih2 _ _ _ _ _ _ _ _ _ _ _ _)
   | (with_reducible exact ih3 _ _ _ _ _ _ _ _ _)
   | (with_reducible exact ih4 _ _ _ _ _ _)
   | (with_reducible exact ih5 _ _ _ _ _ _ _)
   | (with_reducible exact ih6 _ _ _ _ _ _)
   | (with_reducible exact LeO.refl _)
   | (with_reducible exact LeO.none _)
   | (with_reducible refine LeO.ite ?_ ?_)
   | (with_reducible refine LeO.bind ?_ (fun _ => ?_))
   | exact ih0 _ _ _ _ _ _
   | exact ih1 _ _ _ _ _ _ _ _ _ _ _
   | exact ih2 _ _ _ _ _ _ _ _ _ _ _ _
   | exact ih3 _ _ _ _ _ _ _ _ _
   | exact ih4 _ _ _ _ _ _
   | exact ih5 _ _ _ _ _ _ _
   | exact ih6 _ _ _ _ _ _
   | exact LeO.none _
   | refine LeO.ite ?_ ?_
   | refine LeO.bind ?_ (fun _ => ?_)
  ·intro y0 y1 y2 y3 y4 y5 y6
   unfold stratumlaw06_ConvDigits.l1
   repeat' first
   | (with_reducible exact ih0 _ _ _ _ _ _)
   | (with_reducible exact ih1 _ _ _ _ _ _ _ _ _ _ _)
   | (with_reducible exact ih2 _ _ _ _ _ _ _ _ _ _ _ _)
   | (with_reducible exact ih3 _ _ _ _ _ _ _ _ _)
   | (with_reducible exact ih4 _ _ _ _ _ _)
   | (with_reducible exact ih5 _ _ _ _ _ _ _)
   | (with_reducible exact ih6 _ _ _ _ _ _)
   | (with_reducible exact LeO.refl _)
   | (with_reducible exact LeO.none _)
   | (with_reducible refine LeO.ite ?_ ?_)
   | (with_reducible refine LeO.bind ?_ (fun _ => ?_))
   | exact ih0 _ _ _ _ _ _
   | exact ih1 _ _ _ _ _ _ _ _ _ _ _
   | exact ih2 _ _ _ _ _ _ _ _ _ _ _ _
   | exact ih3 _ _ _ _ _ _ _ _ _
   | exact ih4 _ _ _ _ _ _
   | exact ih5 _ _ _ _ _ _ _
   | exact ih6 _ _ _ _ _ _
   | exact LeO.none _
   | refine LeO.ite ?_ ?_
   | refine LeO.bind ?_ (fun _ => ?_)
  ·intro y0 y1 y2 y3 y4 y5
   unfold stratumlaw06_ConvDigits.j6
   repeat' first
   | (with_reducible exact ih0 _ _ _ _ _ _)
   | (with_reducible exact ih1 _ _ _ _ _ _ _ _ _ _ _)
   | (with_reducible exact ih2 _ _ _ _ _ _ _ _ _ _ _ _)
   | (with_reducible exact ih3 _ _ _ _ _ _ _ _ _)
   | (with_reducible exact ih4 _ _ _ _ _ _)
   | (with_reducible exact ih5 _ _ _ _ _ _ _)
   | (with_reducible exact ih6 _ _ _ _ _ _)
   | (with_reducible exact LeO.refl _)
   | (with_reducible exact LeO.none _)
   | (with_reducible refine LeO.ite ?_ ?_)
   | (with_reducible refine LeO.bind ?_ (fun _ => ?_))
   | exact ih0 _ _ _ _ _ _
   | exact ih1 _ _ _ _ _ _ _ _ _ _ _
   | exact ih2 _ _ _ _ _ _ _ _ _ _ _ _
   | exact ih3 _ _ _ _ _ _ _ _ _
   | exact ih4 _ _ _ _ _ _
   | exact ih5 _ _ _ _ _ _ _
   | exact ih6 _ _ _ _ _ _
   | exact LeO.none _
   | refine LeO.ite ?_ ?_
   | refine LeO.bind ?_ (fun _ => ?_)
theorem stratumlaw06_ConvDigits.mono : ∀ a0 a1 a2 a3 k, LeO (stratumlaw06_ConvDigits.f k a0 a1 a2 a3) (stratumlaw06_ConvDigits.f (k + 1) a0 a1 a2 a3) := by
 intro a0 a1 a2 a3 k
 obtain ⟨ih0, ih1, ih2, ih3, ih4, ih5, ih6⟩ := stratumlaw06_ConvDigits.mono_l k
 unfold stratumlaw06_ConvDigits.f
 repeat' first
   | (with_reducible exact ih0 _ _ _ _ _ _)
   | (with_reducible exact ih1 _ _ _ _ _ _ _ _ _ _ _)
   | (with_reducible exact ih2 _ _ _ _ _ _ _ _ _ _ _ _)
   | (with_reducible exact ih3 _ _ _ _ _ _ _ _ _)
   | (with_reducible exact ih4 _ _ _ _ _ _)
   | (with_reducible exact ih5 _ _ _ _ _ _ _)
   | (with_reducible exact ih6 _ _ _ _ _ _)
   | (with_reducible exact LeO.refl _)
   | (with_reducible exact LeO.none _)
   | (with_reducible refine LeO.ite ?_ ?_)
   | (with_reducible refine LeO.bind ?_ (fun _ => ?_))
   | exact ih0 _ _ _ _ _ _
   | exact ih1 _ _ _ _ _ _ _ _ _ _ _
   | exact ih2 _ _ _ _ _ _ _ _ _ _ _ _
   | exact ih3 _ _ _ _ _ _ _ _ _
   | exact ih4 _ _ _ _ _ _
   | exact ih5 _ _ _ _ _ _ _
   | exact ih6 _ _ _ _ _ _
   | exact LeO.none _
   | refine LeO.ite ?_ ?_
   | refine LeO.bind ?_ (fun _ => ?_)
def stratumlaw06_ConvDigits.T29 : Bool × List (List Nat × List Nat) := (true, [([], []), ([0], [0]), ([], []), ([1, 2], [1, 2]), ([], []), ([3, 4], [3, 4]), ([], []), ([6], [6]), ([], []), ([7, 8], [7, 8]), ([5, 9], [5, 9]), ([10], [10]), ([], []), ([12, 11, 0, 1, 2, 3, 4, 5, 6, 7, 8, 9, 10, 11, 12], [11, 12])])
def stratumlaw06_ConvDigits.B29 : List Nat := [0, 1, 0, 7, 0, 31, 0, 64, 0, 448, 1023, 2047, 0, 8191]
theorem stratumlaw06_ConvDigits.tab29 : rtab .any (opsOf Tryz.f4 29) = stratumlaw06_ConvDigits.T29 := by kernel_rfl
theorem stratumlaw06_ConvDigits.bits29 : waitsOk stratumlaw06_ConvDigits.T29.2 stratumlaw06_ConvDigits.B29 = true := by kernel_rfl
set_option maxHeartbeats 8000000 in
set_option maxRecDepth 100000 in
theorem stratumlaw06_ConvDigits.calls (k : Nat) (a0 : Int) (a1 : Int) (a2 : ByteArray) (a3 : Int) (r : Bool) (w : World) (hL : Laid w) (h : stratumlaw06_ConvDigits.f k a0 a1 a2 a3 = some r) :
  Calls Tryz.prog 4 #[.int .u64 a0, .int .i64 a1, .string a2, .int .i64 a3] w fun e w' => e = .returned (.bool r) ∧ Below w.heap.size w w' := by
 have hu27 := Tryz.underlying27
 have HB := Aside0.mk (Below.refl w.heap.size w)
 have HL := Aside0.mk hL
 clear hL
 have H : ((stratumlaw06_awake.f).bind fun t192 => (if t192 = true then (if a1 < 0 then (stratumlaw06_ConvDigits.j0 k a0 a1 a2 a3 t192 true) else (if a1 > 1048576 then (stratumlaw06_ConvDigits.j0 k a0 a1 a2 a3 t192 true) else (stratumlaw06_ConvDigits.j0 k a0 a1 a2 a3 t192 (decide ((a2.size : Int) > 1048576))))) else (stratumlaw06_ConvDigits.j0 k a0 a1 a2 a3 t192 true))) = some r := h
 clear h
 replace H := Option.bind_eq_some_iff.mp H
 obtain ⟨t192, A50, H⟩ := H
 replace H : (if t192 = true then (if a1 < 0 then (stratumlaw06_ConvDigits.j0 k a0 a1 a2 a3 t192 true) else (if a1 > 1048576 then (stratumlaw06_ConvDigits.j0 k a0 a1 a2 a3 t192 true) else (stratumlaw06_ConvDigits.j0 k a0 a1 a2 a3 t192 (decide ((a2.size : Int) > 1048576))))) else (stratumlaw06_ConvDigits.j0 k a0 a1 a2 a3 t192 true)) = some r := H
 have A5 := Aside0.mk A50
 clear A50
 have HC6 := Aside0.mk H
 clear H
 go_enter Tryz.func4, Tryz.ntmps4
 go_upto_region 2 with (first | ((with_reducible refine gate_callee (f := 9) rfl ?_); refine goesL_ (some 24) rfl rfl Tryz.func9 (by kernel_rfl) rfl #[] rfl (by (try simp only [List.map_toArray, List.map_cons, List.map_nil]); first | done | rfl | (simp only [List.length_drop, List.length_take]; rfl)) ?_; (with_reducible refine (stratumlaw06_awake.calls  t192 _ ?side1 A5.out).mono ?_); (case side1 => exact laid_below HL.out (by repeat (first | (with_reducible first | exact HB.out | apply below_alloc | apply pw_below_drewN | apply below_drew1) | exact HB.out))); rintro e w7 ⟨rfl, hb⟩; refine ⟨_, rfl, ?_⟩; have n0_ := Aside0.mk (below_step (by repeat (first | (with_reducible first | exact HB.out | apply below_alloc | apply pw_below_drewN | apply below_drew1) | exact HB.out)) hb); clear HB; have HB := n0_; clear n0_; (try clear hb); (try clear hb2); (try clear hk); (try clear hi)))
 (try simp only [Act.put, List.setIfInBounds_toArray, List.set_cons_zero, List.set_cons_succ])
 go_cut [39] (fun v39 wc => ∃ (kq : Nat) (x39_5 : Bool), v39 = .bool x39_5 ∧ Aside0 (stratumlaw06_ConvDigits.j0 kq a0 a1 a2 a3 t192 x39_5 = some r) ∧ Aside0 (kq ≤ k) ∧ Aside0 (Below w.heap.size w wc))
 case first => as_aux_lemma =>
  have H := HC6.out
  clear HC6
  by_cases c8 : t192 = true
  ·subst c8
   have H1 : (if a1 < 0 then (stratumlaw06_ConvDigits.j0 k a0 a1 a2 a3 true true) else (if a1 > 1048576 then (stratumlaw06_ConvDigits.j0 k a0 a1 a2 a3 true true) else (stratumlaw06_ConvDigits.j0 k a0 a1 a2 a3 true (decide ((a2.size : Int) > 1048576))))) = some r := by rw [if_pos rfl] at H; exact H
   clear H
   have H := H1
   clear H1
   by_cases c9 : a1 < 0
   ·rw [if_pos c9] at H
    have c9b0 : decide (a1 < 0) = true := decide_eq_true c9
    clear c9
    (first | rw [c9b0] | (simp only [i64_w, i32_w]; rw [c9b0]) | skip)
    have H' := Aside0.mk H
    clear H
    go_wp2
    go_meet
    case rel => exact ⟨_, (true), (by first | rfl | (simp; done) | (simp [*]; done)), H', ⟨by first | omega | exact Nat.le_refl _⟩, ⟨by repeat (first | (with_reducible first | exact HB.out | apply below_alloc | apply pw_below_drewN | apply below_drew1) | exact HB.out)⟩⟩
   ·rw [if_neg c9] at H
    have c9b0 : decide (a1 < 0) = false := decide_eq_false c9
    clear c9
    (first | rw [c9b0] | (simp only [i64_w, i32_w]; rw [c9b0]) | skip)
    by_cases c10 : a1 > 1048576
    ·rw [if_pos c10] at H
     have c10b0 : decide (1048576 < a1) = true := decide_eq_true c10
     clear c10
     have H' := Aside0.mk H
     clear H
     go_wp2
     go_meet
     case rel => exact ⟨_, (true), (by first | rfl | (simp; done) | (simp [*]; done)), H', ⟨by first | omega | exact Nat.le_refl _⟩, ⟨by repeat (first | (with_reducible first | exact HB.out | apply below_alloc | apply pw_below_drewN | apply below_drew1) | exact HB.out)⟩⟩
    ·rw [if_neg c10] at H
     have c10b0 : decide (1048576 < a1) = false := decide_eq_false c10
     clear c10
     have H' := Aside0.mk H
     clear H
     go_wp2
     go_meet
     case rel => exact ⟨_, (decide ((a2.size : Int) > 1048576)), (by first | rfl | (simp; done) | (simp [*]; done)), H', ⟨by first | omega | exact Nat.le_refl _⟩, ⟨by repeat (first | (with_reducible first | exact HB.out | apply below_alloc | apply pw_below_drewN | apply below_drew1) | exact HB.out)⟩⟩
  ·replace c8 := Bool.eq_false_iff.mpr c8
   subst c8
   have H1 : (stratumlaw06_ConvDigits.j0 k a0 a1 a2 a3 false true) = some r := by rw [if_neg (show ¬ (false = true) by decide)] at H; exact H
   clear H
   have H := H1
   clear H1
   have H' := Aside0.mk H
   clear H
   go_wp2
   go_meet
   case rel => exact ⟨_, (true), (by first | rfl | (simp; done) | (simp [*]; done)), H', ⟨by first | omega | exact Nat.le_refl _⟩, ⟨by repeat (first | (with_reducible first | exact HB.out | apply below_alloc | apply pw_below_drewN | apply below_drew1) | exact HB.out)⟩⟩
 case rest => as_aux_lemma =>
  clear HC6
  try clear c1
  try clear p2
  try clear c4
  try clear c8
  try clear c9
  try clear c9b0
  try clear c10
  try clear c10b0
  obtain ⟨kq, x39_5, rfl, HA, HJ5, HB⟩ := hcut
  cases kq with
  | zero => exact absurd HA.out (by simp [stratumlaw06_ConvDigits.j0])
  | succ kj5 =>
   have H := HA.out
   clear HA
   simp only [stratumlaw06_ConvDigits.j0] at H
   by_cases c11 : x39_5 = true
   ·subst c11
    have H1 : (some t192) = some r := by rw [if_pos rfl] at H; exact H
    clear H
    have H := H1
    clear H1
    obtain rfl := Option.some.inj H
    go_wp2
    go_ret
    exact ⟨by first | rfl | (simp [errW_none, errW_some] <;> rfl) | (simp [*, errW_none, errW_some] <;> rfl), by repeat (first | (with_reducible first | exact HB.out | apply below_alloc | apply pw_below_drewN | apply below_drew1) | exact HB.out)⟩
   ·replace c11 := Bool.eq_false_iff.mpr c11
    subst c11
    have H1 : ((conv_Apply.f 4 2 a0 (⟨#[]⟩ : ByteArray)).bind fun bt193 => ((conv_Apply.f 3 1 a0 (⟨#[]⟩ : ByteArray)).bind fun bt198 => (if bt193.2.2.2 = 0 then (if bt198.2.2.2 = 0 then (if bt193.2.2.1.toList = ([] : List UInt8) then (stratumlaw06_ConvDigits.j1 kj5 a0 a1 a2 a3 true bt193.1 bt193.2.1 bt193.2.2.1 bt198.1 bt198.2.1 bt198.2.2.1) else (stratumlaw06_ConvDigits.j1 kj5 a0 a1 a2 a3 (bt198.2.2.1.toList == ([] : List UInt8)) bt193.1 bt193.2.1 bt193.2.2.1 bt198.1 bt198.2.1 bt198.2.2.1)) else (stratumlaw06_ConvDigits.j1 kj5 a0 a1 a2 a3 true bt193.1 bt193.2.1 bt193.2.2.1 bt198.1 bt198.2.1 bt198.2.2.1)) else (stratumlaw06_ConvDigits.j1 kj5 a0 a1 a2 a3 true bt193.1 bt193.2.1 bt193.2.2.1 bt198.1 bt198.2.1 bt198.2.2.1)))) = some r := by rw [if_neg (show ¬ (false = true) by decide)] at H; exact H
    clear H
    have H := H1
    clear H1
    replace H := Option.bind_eq_some_iff.mp H
    obtain ⟨⟨t193, t194, t195, t196⟩, A120, H⟩ := H
    replace H : ((conv_Apply.f 3 1 a0 (⟨#[]⟩ : ByteArray)).bind fun bt198 => (if t196 = 0 then (if bt198.2.2.2 = 0 then (if t195.toList = ([] : List UInt8) then (stratumlaw06_ConvDigits.j1 kj5 a0 a1 a2 a3 true t193 t194 t195 bt198.1 bt198.2.1 bt198.2.2.1) else (stratumlaw06_ConvDigits.j1 kj5 a0 a1 a2 a3 (bt198.2.2.1.toList == ([] : List UInt8)) t193 t194 t195 bt198.1 bt198.2.1 bt198.2.2.1)) else (stratumlaw06_ConvDigits.j1 kj5 a0 a1 a2 a3 true t193 t194 t195 bt198.1 bt198.2.1 bt198.2.2.1)) else (stratumlaw06_ConvDigits.j1 kj5 a0 a1 a2 a3 true t193 t194 t195 bt198.1 bt198.2.1 bt198.2.2.1))) = some r := H
    have A12 := Aside0.mk A120
    clear A120
    replace H := Option.bind_eq_some_iff.mp H
    obtain ⟨⟨t198, t199, t200, t201⟩, A130, H⟩ := H
    replace H : (if t196 = 0 then (if t201 = 0 then (if t195.toList = ([] : List UInt8) then (stratumlaw06_ConvDigits.j1 kj5 a0 a1 a2 a3 true t193 t194 t195 t198 t199 t200) else (stratumlaw06_ConvDigits.j1 kj5 a0 a1 a2 a3 (t200.toList == ([] : List UInt8)) t193 t194 t195 t198 t199 t200)) else (stratumlaw06_ConvDigits.j1 kj5 a0 a1 a2 a3 true t193 t194 t195 t198 t199 t200)) else (stratumlaw06_ConvDigits.j1 kj5 a0 a1 a2 a3 true t193 t194 t195 t198 t199 t200)) = some r := H
    have A13 := Aside0.mk A130
    clear A130
    have HC14 := Aside0.mk H
    clear H
    go_upto_region 6 with (first | ((with_reducible refine gate_callee (f := 11) rfl ?_); refine goesL_ (some 44) rfl rfl Tryz.func11 (by kernel_rfl) rfl #[.int .i64 4, .agg #[.int .i64 2, .int .u64 a0, .string (⟨#[]⟩ : ByteArray)]] rfl (by (try simp only [List.map_toArray, List.map_cons, List.map_nil]); first | done | rfl | (simp only [List.length_drop, List.length_take]; rfl)) ?_; (with_reducible refine (conv_Apply.calls 4 2 a0 (⟨#[]⟩ : ByteArray) t193 t194 t195 t196 _ ?side1 A12.out).mono ?_); (case side1 => exact laid_below HL.out (by repeat (first | (with_reducible first | exact HB.out | apply below_alloc | apply pw_below_drewN | apply below_drew1) | exact HB.out))); rintro e w15 ⟨rfl, hb⟩; refine ⟨_, rfl, ?_⟩; have n0_ := Aside0.mk (below_step (by repeat (first | (with_reducible first | exact HB.out | apply below_alloc | apply pw_below_drewN | apply below_drew1) | exact HB.out)) hb); clear HB; have HB := n0_; clear n0_; (try clear hb); (try clear hb2); (try clear hk); (try clear hi)) | ((with_reducible refine gate_dst (N := 10) rfl ?_); (try (refine gate_guard (by rfl) ?_; dsimp only)); refine box_event ?hg (N := 10) ?hd (cs := #[.int .i64 0, .int .u64 0, .string (⟨#[]⟩ : ByteArray)]) (t := 27) ?hr ?_; (case hd => rfl); (case hg => rfl); (case hr => first | (go_simp; done) | (go_simp; rfl)); intro gb197 hg w16 hbox hb; have n0_ := Aside0.mk (below_step (by repeat (first | (with_reducible first | exact HB.out | apply below_alloc | apply pw_below_drewN | apply below_drew1) | exact HB.out)) hb); have n1_ := Aside0.mk (hbox); have n2_ := Aside0.mk ((by rw [hg]; exact (below_size (by repeat (first | (with_reducible first | exact HB.out | apply below_alloc | apply pw_below_drewN | apply below_drew1) | exact HB.out))) : w.heap.size ≤ gb197)); have n3_ := Aside0.mk ((by rw [hg]; exact (below_size (by repeat (first | (with_reducible first | exact HB.out | apply below_alloc | apply pw_below_drewN | apply below_drew1) | exact HB.out))) : w.heap.size ≤ gb197)); clear HB; have HB := n0_; have BK197 := n1_; have GW197 := n2_; have GE197 := n3_; clear n0_ n1_ n2_ n3_; clear hb hbox hg; have hcz17_0 : w16.cell? ⟨gb197, 0, none⟩ = some (.int .i64 0) := (blk_cell BK197.out 0).trans rfl; have hcz17_1 : w16.cell? ⟨gb197, 1, none⟩ = some (.int .u64 0) := (blk_cell BK197.out 1).trans rfl; have hcz17_2 : w16.cell? ⟨gb197, 2, none⟩ = some (.string (⟨#[]⟩ : ByteArray)) := (blk_cell BK197.out 2).trans rfl; have hfz17_0 := blk_frozen BK197.out 0; have hfz17_1 := blk_frozen BK197.out 1; have hfz17_2 := blk_frozen BK197.out 2) | ((with_reducible refine gate_callee (f := 11) rfl ?_); refine goesL_ (some 50) rfl rfl Tryz.func11 (by kernel_rfl) rfl #[.int .i64 3, .agg #[.int .i64 1, .int .u64 a0, .string (⟨#[]⟩ : ByteArray)]] rfl (by (try simp only [List.map_toArray, List.map_cons, List.map_nil]); first | done | rfl | (simp only [List.length_drop, List.length_take]; rfl)) ?_; (with_reducible refine (conv_Apply.calls 3 1 a0 (⟨#[]⟩ : ByteArray) t198 t199 t200 t201 _ ?side1 A13.out).mono ?_); (case side1 => exact laid_below HL.out (by repeat (first | (with_reducible first | exact HB.out | apply below_alloc | apply pw_below_drewN | apply below_drew1 | refine below_set ?_ GE197.out) | exact HB.out))); rintro e w18 ⟨rfl, hb⟩; refine ⟨_, rfl, ?_⟩; have n0_ := Aside0.mk (blk_below (g := gb197) (o := .cells #[.int .i64 t193, .int .u64 t194, .string t195] 27 (0, 0)) (by (with_reducible repeat (first | refine blk_drewN ?_ _ | refine blk_drew ?_ | refine blk_alloc ?_ _)); refine blk_put (cs := #[.int .i64 t193, .int .u64 t194, .string (⟨#[]⟩ : ByteArray)]) ?_ 2 _ rfl; (with_reducible repeat (first | refine blk_drewN ?_ _ | refine blk_drew ?_ | refine blk_alloc ?_ _)); refine blk_put (cs := #[.int .i64 t193, .int .u64 0, .string (⟨#[]⟩ : ByteArray)]) ?_ 1 _ rfl; (with_reducible repeat (first | refine blk_drewN ?_ _ | refine blk_drew ?_ | refine blk_alloc ?_ _)); refine blk_put (cs := #[.int .i64 0, .int .u64 0, .string (⟨#[]⟩ : ByteArray)]) ?_ 0 _ rfl; (with_reducible repeat (first | refine blk_drewN ?_ _ | refine blk_drew ?_ | refine blk_alloc ?_ _)); exact BK197.out) hb); have n1_ := Aside0.mk (below_step (by repeat (first | (with_reducible first | exact HB.out | apply below_alloc | apply pw_below_drewN | apply below_drew1 | refine below_set ?_ GE197.out) | exact HB.out)) hb); clear BK197; clear HB; have BK197 := n0_; have HB := n1_; clear n0_ n1_; (try clear hb); (try clear hb2); (try clear hk); (try clear hi)) | ((with_reducible refine gate_dst (N := 12) rfl ?_); (try (refine gate_guard (by rfl) ?_; dsimp only)); refine box_event ?hg (N := 12) ?hd (cs := #[.int .i64 0, .int .u64 0, .string (⟨#[]⟩ : ByteArray)]) (t := 27) ?hr ?_; (case hd => rfl); (case hg => rfl); (case hr => first | (go_simp; done) | (go_simp; rfl)); intro gb202 hg w19 hbox hb; have n0_ := Aside0.mk (blk_below (g := gb197) (o := .cells #[.int .i64 t193, .int .u64 t194, .string t195] 27 (0, 0)) (by (with_reducible repeat (first | refine blk_drewN ?_ _ | refine blk_drew ?_ | refine blk_alloc ?_ _)); exact BK197.out) hb); have n1_ := Aside0.mk (below_step (by repeat (first | (with_reducible first | exact HB.out | apply below_alloc | apply pw_below_drewN | apply below_drew1 | refine below_set ?_ GE197.out) | exact HB.out)) hb); have n2_ := Aside0.mk (hbox); have n3_ := Aside0.mk ((by rw [hg]; exact (below_size (by repeat (first | (with_reducible first | exact HB.out | apply below_alloc | apply pw_below_drewN | apply below_drew1 | refine below_set ?_ GE197.out) | exact HB.out))) : w.heap.size ≤ gb202)); have n4_ := Aside0.mk ((by rw [hg]; exact (below_size (by repeat (first | (with_reducible first | exact HB.out | apply below_alloc | apply pw_below_drewN | apply below_drew1 | refine below_set ?_ GE197.out) | exact HB.out))) : w.heap.size ≤ gb202)); have n5_ := Aside0.mk ((by rw [hg]; exact Nat.ne_of_lt (blk_lt (g := gb197) (o := .cells #[.int .i64 t193, .int .u64 t194, .string t195] 27 (0, 0)) (by (with_reducible repeat (first | refine blk_drewN ?_ _ | refine blk_drew ?_ | refine blk_alloc ?_ _)); exact BK197.out)) : gb197 ≠ gb202)); have n6_ := Aside0.mk ((by rw [hg]; exact Nat.ne_of_gt (blk_lt (g := gb197) (o := .cells #[.int .i64 t193, .int .u64 t194, .string t195] 27 (0, 0)) (by (with_reducible repeat (first | refine blk_drewN ?_ _ | refine blk_drew ?_ | refine blk_alloc ?_ _)); exact BK197.out)) : gb202 ≠ gb197)); clear BK197; clear HB; have BK197 := n0_; have HB := n1_; have BK202 := n2_; have GW202 := n3_; have GE202 := n4_; have NB197_202 := n5_; have NB202_197 := n6_; clear n0_ n1_ n2_ n3_ n4_ n5_ n6_; clear hb hbox hg; have hnb20 := NB202_197.out; have hnc20 := NB197_202.out; have hcz21_0 : w19.cell? ⟨gb202, 0, none⟩ = some (.int .i64 0) := (blk_cell BK202.out 0).trans rfl; have hcz21_1 : w19.cell? ⟨gb202, 1, none⟩ = some (.int .u64 0) := (blk_cell BK202.out 1).trans rfl; have hcz21_2 : w19.cell? ⟨gb202, 2, none⟩ = some (.string (⟨#[]⟩ : ByteArray)) := (blk_cell BK202.out 2).trans rfl; have hfz21_0 := blk_frozen BK202.out 0; have hfz21_1 := blk_frozen BK202.out 1; have hfz21_2 := blk_frozen BK202.out 2))
    (try simp only [Act.put, List.setIfInBounds_toArray, List.set_cons_zero, List.set_cons_succ])
    go_cut [68] (fun v68 wc => ∃ (kq : Nat) (x68_13 : Bool), v68 = .bool x68_13 ∧ Aside0 (stratumlaw06_ConvDigits.j1 kq a0 a1 a2 a3 x68_13 t193 t194 t195 t198 t199 t200 = some r) ∧ Aside0 (kq ≤ kj5) ∧ Aside0 (wc.heap[gb197]? = some (.cells #[.int .i64 t193, .int .u64 t194, .string t195] 27 (0, 0))) ∧ Aside0 (wc.heap[gb202]? = some (.cells #[.int .i64 t198, .int .u64 t199, .string t200] 27 (0, 0))) ∧ Aside0 (Below w.heap.size w wc))
    case first => as_aux_lemma =>
     have H := HC14.out
     clear HC14
     by_cases c22 : t196 = 0
     ·rw [if_pos c22] at H
      have c22b0 : (t196 == 0) = true := beq_iff_eq.mpr c22
      have c22b1 : (t196 != 0) = false := bne_eq_false_iff_eq.mpr c22
      clear c22
      (first | rw [c22b0] | (simp only [i64_w, i32_w]; rw [c22b0]) | skip)
      by_cases c23 : t201 = 0
      ·rw [if_pos c23] at H
       have c23b0 : (t201 == 0) = true := beq_iff_eq.mpr c23
       have c23b1 : (t201 != 0) = false := bne_eq_false_iff_eq.mpr c23
       clear c23
       by_cases c24 : t195.toList = ([] : List UInt8)
       ·rw [if_pos c24] at H
        have c24b0 : (t195.toList == ([] : List UInt8)) = true := beq_iff_eq.mpr c24
        have c24b1 : (t195.toList != ([] : List UInt8)) = false := bne_eq_false_iff_eq.mpr c24
        clear c24
        have H' := Aside0.mk H
        clear H
        have hnb25 := NB197_202.out
        have hnc25 := NB202_197.out
        have hcz26_0 : w19.cell? ⟨gb197, 0, none⟩ = some (.int .i64 t193) := (blk_cell BK197.out 0).trans rfl
        have hcz26_1 : w19.cell? ⟨gb197, 1, none⟩ = some (.int .u64 t194) := (blk_cell BK197.out 1).trans rfl
        have hcz26_2 : w19.cell? ⟨gb197, 2, none⟩ = some (.string t195) := (blk_cell BK197.out 2).trans rfl
        have hfz26_0 := blk_frozen BK197.out 0
        have hfz26_1 := blk_frozen BK197.out 1
        have hfz26_2 := blk_frozen BK197.out 2
        go_wp2
        go_meet
        case rel => exact ⟨_, (true), (by first | rfl | (simp; done) | (simp [*]; done)), H', ⟨by have := HJ5.out; first | omega | exact Nat.le_refl _⟩, ⟨by (with_reducible repeat (first | refine blk_drewN ?_ _ | refine blk_drew ?_ | refine blk_alloc ?_ _)); refine blk_far ?_ NB197_202.out _; (with_reducible repeat (first | refine blk_drewN ?_ _ | refine blk_drew ?_ | refine blk_alloc ?_ _)); refine blk_far ?_ NB197_202.out _; (with_reducible repeat (first | refine blk_drewN ?_ _ | refine blk_drew ?_ | refine blk_alloc ?_ _)); refine blk_far ?_ NB197_202.out _; (with_reducible repeat (first | refine blk_drewN ?_ _ | refine blk_drew ?_ | refine blk_alloc ?_ _)); exact BK197.out⟩, ⟨by (with_reducible repeat (first | refine blk_drewN ?_ _ | refine blk_drew ?_ | refine blk_alloc ?_ _)); refine blk_put (cs := #[.int .i64 t198, .int .u64 t199, .string (⟨#[]⟩ : ByteArray)]) ?_ 2 _ rfl; (with_reducible repeat (first | refine blk_drewN ?_ _ | refine blk_drew ?_ | refine blk_alloc ?_ _)); refine blk_put (cs := #[.int .i64 t198, .int .u64 0, .string (⟨#[]⟩ : ByteArray)]) ?_ 1 _ rfl; (with_reducible repeat (first | refine blk_drewN ?_ _ | refine blk_drew ?_ | refine blk_alloc ?_ _)); refine blk_put (cs := #[.int .i64 0, .int .u64 0, .string (⟨#[]⟩ : ByteArray)]) ?_ 0 _ rfl; (with_reducible repeat (first | refine blk_drewN ?_ _ | refine blk_drew ?_ | refine blk_alloc ?_ _)); exact BK202.out⟩, ⟨by repeat (first | (with_reducible first | exact HB.out | apply below_alloc | apply pw_below_drewN | apply below_drew1 | refine below_set ?_ GE197.out | refine below_set ?_ GE202.out) | exact HB.out)⟩⟩
       ·rw [if_neg c24] at H
        have c24b0 : (t195.toList == ([] : List UInt8)) = false := beq_eq_false_iff_ne.mpr c24
        have c24b1 : (t195.toList != ([] : List UInt8)) = true := bne_iff_ne.mpr c24
        have H' := Aside0.mk H
        clear H
        have hnb27 := NB197_202.out
        have hnc27 := NB202_197.out
        have hcz28_0 : w19.cell? ⟨gb197, 0, none⟩ = some (.int .i64 t193) := (blk_cell BK197.out 0).trans rfl
        have hcz28_1 : w19.cell? ⟨gb197, 1, none⟩ = some (.int .u64 t194) := (blk_cell BK197.out 1).trans rfl
        have hcz28_2 : w19.cell? ⟨gb197, 2, none⟩ = some (.string t195) := (blk_cell BK197.out 2).trans rfl
        have hfz28_0 := blk_frozen BK197.out 0
        have hfz28_1 := blk_frozen BK197.out 1
        have hfz28_2 := blk_frozen BK197.out 2
        have hcz29_0 : w19.cell? ⟨gb202, 0, none⟩ = some (.int .i64 0) := (blk_cell BK202.out 0).trans rfl
        have hcz29_1 : w19.cell? ⟨gb202, 1, none⟩ = some (.int .u64 0) := (blk_cell BK202.out 1).trans rfl
        have hcz29_2 : w19.cell? ⟨gb202, 2, none⟩ = some (.string (⟨#[]⟩ : ByteArray)) := (blk_cell BK202.out 2).trans rfl
        have hfz29_0 := blk_frozen BK202.out 0
        have hfz29_1 := blk_frozen BK202.out 1
        have hfz29_2 := blk_frozen BK202.out 2
        go_wp2
        go_meet
        case rel => exact ⟨_, ((t200.toList == ([] : List UInt8))), (by first | rfl | (simp; done) | (simp [*]; done)), H', ⟨by have := HJ5.out; first | omega | exact Nat.le_refl _⟩, ⟨by (with_reducible repeat (first | refine blk_drewN ?_ _ | refine blk_drew ?_ | refine blk_alloc ?_ _)); refine blk_far ?_ NB197_202.out _; (with_reducible repeat (first | refine blk_drewN ?_ _ | refine blk_drew ?_ | refine blk_alloc ?_ _)); refine blk_far ?_ NB197_202.out _; (with_reducible repeat (first | refine blk_drewN ?_ _ | refine blk_drew ?_ | refine blk_alloc ?_ _)); refine blk_far ?_ NB197_202.out _; (with_reducible repeat (first | refine blk_drewN ?_ _ | refine blk_drew ?_ | refine blk_alloc ?_ _)); exact BK197.out⟩, ⟨by (with_reducible repeat (first | refine blk_drewN ?_ _ | refine blk_drew ?_ | refine blk_alloc ?_ _)); refine blk_put (cs := #[.int .i64 t198, .int .u64 t199, .string (⟨#[]⟩ : ByteArray)]) ?_ 2 _ rfl; (with_reducible repeat (first | refine blk_drewN ?_ _ | refine blk_drew ?_ | refine blk_alloc ?_ _)); refine blk_put (cs := #[.int .i64 t198, .int .u64 0, .string (⟨#[]⟩ : ByteArray)]) ?_ 1 _ rfl; (with_reducible repeat (first | refine blk_drewN ?_ _ | refine blk_drew ?_ | refine blk_alloc ?_ _)); refine blk_put (cs := #[.int .i64 0, .int .u64 0, .string (⟨#[]⟩ : ByteArray)]) ?_ 0 _ rfl; (with_reducible repeat (first | refine blk_drewN ?_ _ | refine blk_drew ?_ | refine blk_alloc ?_ _)); exact BK202.out⟩, ⟨by repeat (first | (with_reducible first | exact HB.out | apply below_alloc | apply pw_below_drewN | apply below_drew1 | refine below_set ?_ GE197.out | refine below_set ?_ GE202.out) | exact HB.out)⟩⟩
      ·rw [if_neg c23] at H
       have c23b0 : (t201 == 0) = false := beq_eq_false_iff_ne.mpr c23
       have c23b1 : (t201 != 0) = true := bne_iff_ne.mpr c23
       have H' := Aside0.mk H
       clear H
       go_wp2
       go_meet
       case rel => exact ⟨_, (true), (by first | rfl | (simp; done) | (simp [*]; done)), H', ⟨by have := HJ5.out; first | omega | exact Nat.le_refl _⟩, ⟨by (with_reducible repeat (first | refine blk_drewN ?_ _ | refine blk_drew ?_ | refine blk_alloc ?_ _)); refine blk_far ?_ NB197_202.out _; (with_reducible repeat (first | refine blk_drewN ?_ _ | refine blk_drew ?_ | refine blk_alloc ?_ _)); refine blk_far ?_ NB197_202.out _; (with_reducible repeat (first | refine blk_drewN ?_ _ | refine blk_drew ?_ | refine blk_alloc ?_ _)); refine blk_far ?_ NB197_202.out _; (with_reducible repeat (first | refine blk_drewN ?_ _ | refine blk_drew ?_ | refine blk_alloc ?_ _)); exact BK197.out⟩, ⟨by (with_reducible repeat (first | refine blk_drewN ?_ _ | refine blk_drew ?_ | refine blk_alloc ?_ _)); refine blk_put (cs := #[.int .i64 t198, .int .u64 t199, .string (⟨#[]⟩ : ByteArray)]) ?_ 2 _ rfl; (with_reducible repeat (first | refine blk_drewN ?_ _ | refine blk_drew ?_ | refine blk_alloc ?_ _)); refine blk_put (cs := #[.int .i64 t198, .int .u64 0, .string (⟨#[]⟩ : ByteArray)]) ?_ 1 _ rfl; (with_reducible repeat (first | refine blk_drewN ?_ _ | refine blk_drew ?_ | refine blk_alloc ?_ _)); refine blk_put (cs := #[.int .i64 0, .int .u64 0, .string (⟨#[]⟩ : ByteArray)]) ?_ 0 _ rfl; (with_reducible repeat (first | refine blk_drewN ?_ _ | refine blk_drew ?_ | refine blk_alloc ?_ _)); exact BK202.out⟩, ⟨by repeat (first | (with_reducible first | exact HB.out | apply below_alloc | apply pw_below_drewN | apply below_drew1 | refine below_set ?_ GE197.out | refine below_set ?_ GE202.out) | exact HB.out)⟩⟩
     ·rw [if_neg c22] at H
      have c22b0 : (t196 == 0) = false := beq_eq_false_iff_ne.mpr c22
      have c22b1 : (t196 != 0) = true := bne_iff_ne.mpr c22
      (first | rw [c22b0] | (simp only [i64_w, i32_w]; rw [c22b0]) | skip)
      have H' := Aside0.mk H
      clear H
      go_wp2
      go_meet
      case rel => exact ⟨_, (true), (by first | rfl | (simp; done) | (simp [*]; done)), H', ⟨by have := HJ5.out; first | omega | exact Nat.le_refl _⟩, ⟨by (with_reducible repeat (first | refine blk_drewN ?_ _ | refine blk_drew ?_ | refine blk_alloc ?_ _)); refine blk_far ?_ NB197_202.out _; (with_reducible repeat (first | refine blk_drewN ?_ _ | refine blk_drew ?_ | refine blk_alloc ?_ _)); refine blk_far ?_ NB197_202.out _; (with_reducible repeat (first | refine blk_drewN ?_ _ | refine blk_drew ?_ | refine blk_alloc ?_ _)); refine blk_far ?_ NB197_202.out _; (with_reducible repeat (first | refine blk_drewN ?_ _ | refine blk_drew ?_ | refine blk_alloc ?_ _)); exact BK197.out⟩, ⟨by (with_reducible repeat (first | refine blk_drewN ?_ _ | refine blk_drew ?_ | refine blk_alloc ?_ _)); refine blk_put (cs := #[.int .i64 t198, .int .u64 t199, .string (⟨#[]⟩ : ByteArray)]) ?_ 2 _ rfl; (with_reducible repeat (first | refine blk_drewN ?_ _ | refine blk_drew ?_ | refine blk_alloc ?_ _)); refine blk_put (cs := #[.int .i64 t198, .int .u64 0, .string (⟨#[]⟩ : ByteArray)]) ?_ 1 _ rfl; (with_reducible repeat (first | refine blk_drewN ?_ _ | refine blk_drew ?_ | refine blk_alloc ?_ _)); refine blk_put (cs := #[.int .i64 0, .int .u64 0, .string (⟨#[]⟩ : ByteArray)]) ?_ 0 _ rfl; (with_reducible repeat (first | refine blk_drewN ?_ _ | refine blk_drew ?_ | refine blk_alloc ?_ _)); exact BK202.out⟩, ⟨by repeat (first | (with_reducible first | exact HB.out | apply below_alloc | apply pw_below_drewN | apply below_drew1 | refine below_set ?_ GE197.out | refine below_set ?_ GE202.out) | exact HB.out)⟩⟩
    case rest => as_aux_lemma =>
     clear HC14
     try clear c1
     try clear c2
     try clear p2
     try clear c4
     try clear c8
     try clear c9
     try clear c9b0
     try clear c10
     try clear c10b0
     try clear c11
     try clear c20
     try clear c22
     try clear c22b0
     try clear c22b1
     try clear c23
     try clear c23b0
     try clear c23b1
     try clear c24
     try clear c24b0
     try clear c24b1
     try clear c25
     try clear c27
     try clear hcz17_0
     try clear hcz17_1
     try clear hcz17_2
     try clear hcz21_0
     try clear hcz21_1
     try clear hcz21_2
     try clear hcz26_0
     try clear hcz26_1
     try clear hcz26_2
     try clear hcz28_0
     try clear hcz28_1
     try clear hcz28_2
     try clear hcz29_0
     try clear hcz29_1
     try clear hcz29_2
     try clear hfz17_0
     try clear hfz17_1
     try clear hfz17_2
     try clear hfz21_0
     try clear hfz21_1
     try clear hfz21_2
     try clear hfz26_0
     try clear hfz26_1
     try clear hfz26_2
     try clear hfz28_0
     try clear hfz28_1
     try clear hfz28_2
     try clear hfz29_0
     try clear hfz29_1
     try clear hfz29_2
     try clear p2
     obtain ⟨kq, x68_13, rfl, HA, HJ13, BK197, BK202, HB⟩ := hcut
     cases kq with
     | zero => exact absurd HA.out (by simp [stratumlaw06_ConvDigits.j1])
     | succ kj13 =>
      have H := HA.out
      clear HA
      simp only [stratumlaw06_ConvDigits.j1] at H
      by_cases c30 : x68_13 = true
      ·subst c30
       have H1 : (some false) = some r := by rw [if_pos rfl] at H; exact H
       clear H
       have H := H1
       clear H1
       obtain rfl := Option.some.inj H
       go_wp2
       go_ret
       exact ⟨by first | rfl | (simp [errW_none, errW_some] <;> rfl) | (simp [*, errW_none, errW_some] <;> rfl), by repeat (first | (with_reducible first | exact HB.out | apply below_alloc | apply pw_below_drewN | apply below_drew1 | refine below_set ?_ GE197.out | refine below_set ?_ GE202.out) | exact HB.out)⟩
      ·replace c30 := Bool.eq_false_iff.mpr c30
       subst c30
       have H1 : (if 0 ≤ a1 then (if (a1 : Int).toNat ≤ 281474976710656 then (stratumlaw06_ConvDigits.l0 kj13 a0 a1 a2 a3 (List.replicate (a1 : Int).toNat 0) 0 t193 t194 t195 t198 t199 t200) else (none)) else (none)) = some r := by rw [if_neg (show ¬ (false = true) by decide)] at H; exact H
       clear H
       have H := H1
       clear H1
       by_cases c31 : 0 ≤ a1
       ·rw [if_pos c31] at H
        have c31b0 := eq_true c31
        have c31b1 : decide (0 ≤ a1) = true := decide_eq_true c31
        clear c31
        by_cases c32 : (a1 : Int).toNat ≤ 281474976710656
        ·rw [if_pos c32] at H
         have c32b0 := eq_true c32
         have c32b1 : decide ((a1 : Int).toNat ≤ 281474976710656) = true := decide_eq_true c32
         clear c32
         obtain ⟨y203, hy203⟩ : ∃ y_ : List Int, y_ = (List.replicate (a1 : Int).toNat 0) := ⟨_, rfl⟩
         replace H : (stratumlaw06_ConvDigits.l0 kj13 a0 a1 a2 a3 y203 0 t193 t194 t195 t198 t199 t200) = some r := by first | (rw [hy203]; with_reducible exact H) | (have H2_ := (Option.bind_some _ _).symm.trans H; rw [hy203]; with_reducible exact H2_) | (have H2_ := (Option.bind_some _ _).symm.trans H; with_reducible exact H2_) | with_reducible exact H | (rw [hy203]; exact H) | exact H
         have Ny203 := Aside0.mk hy203
         clear hy203
         have H' := Aside0.mk H
         clear H
         go_wp2_with (first | ((with_reducible refine gate_dst (N := 70) rfl ?_); (try (refine gate_guard (by rfl) ?_; dsimp only)); refine Kd.R_make (Kd.int .u8) _ 5 rfl (N := 70) rfl 33 _ _ rfl a1 rfl rfl Tryz.underlying33 (.int .u8 0) 1 info5 rfl (by decide) (by omega) 0 (ok := fun _ => True) (okp := fun _ => True) rfl (fun _ hk => hk) trivial (of_decide_eq_true (by first | (with_reducible assumption) | assumption)) (Nat.le_trans (Nat.mul_le_mul_right _ (of_decide_eq_true (by first | (with_reducible assumption) | assumption) : a1.toNat ≤ 281474976710656)) (by omega)) (Below.refl _ _) (Nat.le_refl _) ?_; intro v204 w33 ho34 hb hg_ hnew_; clear hg_ hnew_; (first | rw [← Ny203.out] at ho34 | (simp only [Int.reduceToNat] at ho34; rw [← Ny203.out] at ho34)); have n0_ := Aside0.mk (Kd.R_lower ho34 (below_size (by repeat (first | (with_reducible first | exact HB.out | apply below_alloc | apply pw_below_drewN | apply below_drew1 | refine below_set ?_ GE197.out | refine below_set ?_ GE202.out) | exact HB.out)))); have n1_ := Aside0.mk (blk_below (g := gb197) (o := .cells #[.int .i64 t193, .int .u64 t194, .string t195] 27 (0, 0)) (by (with_reducible repeat (first | refine blk_drewN ?_ _ | refine blk_drew ?_ | refine blk_alloc ?_ _)); exact BK197.out) hb); have n2_ := Aside0.mk (blk_below (g := gb202) (o := .cells #[.int .i64 t198, .int .u64 t199, .string t200] 27 (0, 0)) (by (with_reducible repeat (first | refine blk_drewN ?_ _ | refine blk_drew ?_ | refine blk_alloc ?_ _)); exact BK202.out) hb); have n3_ := Aside0.mk (below_step (by repeat (first | (with_reducible first | exact HB.out | apply below_alloc | apply pw_below_drewN | apply below_drew1 | refine below_set ?_ GE197.out | refine below_set ?_ GE202.out) | exact HB.out)) hb); clear BK197; clear BK202; clear HB; have HO205 := n0_; have BK197 := n1_; have BK202 := n2_; have HB := n3_; clear n0_ n1_ n2_ n3_; clear hb ho34))
         go_loopg [15] kj13 (fun kq v15 w' => ∃ (x14_3 : List Int) (x15_3 : Int), v15 = .int .i64 x15_3 ∧ Aside0 (stratumlaw06_ConvDigits.l0 kq a0 a1 a2 a3 x14_3 x15_3 t193 t194 t195 t198 t199 t200 = some r) ∧ Aside0 (kq ≤ kj13) ∧ Aside0 (Kd.R (Kd.int .u8) 5 w' w.heap.size (fun _ => True) v204 x14_3) ∧ Aside0 (w'.heap[gb197]? = some (.cells #[.int .i64 t193, .int .u64 t194, .string t195] 27 (0, 0))) ∧ Aside0 (w'.heap[gb202]? = some (.cells #[.int .i64 t198, .int .u64 t199, .string t200] 27 (0, 0))) ∧ Aside0 (Below w.heap.size w w'))
         case atStart => exact ⟨(y203), (0), (by first | rfl | (simp; done) | (simp [*]; done)), H', ⟨Nat.le_refl _⟩, ⟨by (with_reducible repeat (first | apply Kd.R_alloc | apply Kd.R_drewN | apply Kd.R_drew)); exact HO205.out⟩, ⟨by (with_reducible repeat (first | refine blk_drewN ?_ _ | refine blk_drew ?_ | refine blk_alloc ?_ _)); exact BK197.out⟩, ⟨by (with_reducible repeat (first | refine blk_drewN ?_ _ | refine blk_drew ?_ | refine blk_alloc ?_ _)); exact BK202.out⟩, ⟨by repeat (first | (with_reducible first | exact HB.out | apply below_alloc | apply pw_below_drewN | apply below_drew1 | refine below_set ?_ GE197.out | refine below_set ?_ GE202.out) | exact HB.out)⟩⟩
         case round =>
          clear H'
          try clear c1
          try clear c2
          try clear p2
          try clear c3
          try clear c4
          try clear c8
          try clear c9
          try clear c9b0
          try clear c10
          try clear c10b0
          try clear c11
          try clear c20
          try clear c22
          try clear c22b0
          try clear c22b1
          try clear c23
          try clear c23b0
          try clear c23b1
          try clear c24
          try clear c24b0
          try clear c24b1
          try clear c25
          try clear c27
          try clear c30
          try clear c31
          try clear c31b0
          try clear c31b1
          try clear c32
          try clear c32b0
          try clear c32b1
          try clear hcz17_0
          try clear hcz17_1
          try clear hcz17_2
          try clear hcz21_0
          try clear hcz21_1
          try clear hcz21_2
          try clear hcz26_0
          try clear hcz26_1
          try clear hcz26_2
          try clear hcz28_0
          try clear hcz28_1
          try clear hcz28_2
          try clear hcz29_0
          try clear hcz29_1
          try clear hcz29_2
          try clear hfz17_0
          try clear hfz17_1
          try clear hfz17_2
          try clear hfz21_0
          try clear hfz21_1
          try clear hfz21_2
          try clear hfz26_0
          try clear hfz26_1
          try clear hfz26_2
          try clear hfz28_0
          try clear hfz28_1
          try clear hfz28_2
          try clear hfz29_0
          try clear hfz29_1
          try clear hfz29_2
          try clear p2
          obtain ⟨x14_3, x15_3, rfl, HA, HK3, HO_14, BK197, BK202, HB⟩ := hrel
          cases gk with
          | zero => exact absurd HA.out (by simp [stratumlaw06_ConvDigits.l0])
          | succ k3 =>
           have H := HA.out
           clear HA
           simp only [stratumlaw06_ConvDigits.l0] at H
           by_cases c35 : x15_3 < a1
           ·rw [if_pos c35] at H
            have c35b0 : decide (x15_3 < a1) = true := decide_eq_true c35
            clear c35
            by_cases c36 : 0 ≤ x15_3
            ·rw [if_pos c36] at H
             have c36b0 : decide (0 ≤ x15_3) = true := decide_eq_true c36
             clear c36
             by_cases c37 : x15_3 < (x14_3.length : Int)
             ·rw [if_pos c37] at H
              have c37b0 : decide (x15_3 < (x14_3.length : Int)) = true := decide_eq_true c37
              clear c37
              obtain ⟨y206, hy206⟩ : ∃ y_ : List Int, y_ = (x14_3.set (x15_3 : Int).toNat 48) := ⟨_, rfl⟩
              replace H : (stratumlaw06_ConvDigits.l0 k3 a0 a1 a2 a3 y206 (wrap64 (x15_3 + 1)) t193 t194 t195 t198 t199 t200) = some r := by first | (rw [hy206]; with_reducible exact H) | (have H2_ := (Option.bind_some _ _).symm.trans H; rw [hy206]; with_reducible exact H2_) | (have H2_ := (Option.bind_some _ _).symm.trans H; with_reducible exact H2_) | with_reducible exact H | (rw [hy206]; exact H) | exact H
              have Ny206 := Aside0.mk hy206
              clear hy206
              have H' := Aside0.mk H
              clear H
              have p38 : 0 ≤ (x15_3 : Int) := of_decide_eq_true (by first | (with_reducible assumption) | assumption)
              have q38 : (x15_3 : Int) < ((x14_3.length : Int) : Int) := of_decide_eq_true (by first | (with_reducible assumption) | assumption)
              obtain ⟨go38, co38, eo38, gb38, gl38, cl38, HG38⟩ := Kd.R_form HO_14.out (by omega)
              (first | cases eo38 | (injection eo38 with ea_ en_ ec_; (first | subst ea_ | (injection ea_ with ea_; subst ea_)); subst ec_; clear en_))
              have GB38 := Aside0.mk gb38
              have GG38 := Aside0.mk HG38
              clear gb38 gl38 HG38
              obtain ⟨hx38_0, hf38_0⟩ := Kd.R_celln 0 HO_14.out (x15_3 : Int) p38 q38
              replace p38 := eq_true p38
              replace q38 := eq_true q38
              have HP39 := Kd.R_putg HO_14.out (x15_3 : Int) 48
              go_wp2_with (first | ((with_reducible refine gate_store (t := 5) (p := 78) rfl ?_); refine store_event (t := 5) (p := 78) (v := ?vo_w40) (w1 := (wr.setCell ⟨go38, (x15_3 : Int).toNat, none⟩ (.int .u8 48))) ?hg ?ho ?hn ?hr ?_; (case ho => rfl); (case hg => rfl); (case hn => rfl); (case hr => first | (go_simp; done) | (go_simp; rfl)); intro w40 hw; have hg : wr.grownBy w40 (some go38) := (by rw [hw]; exact HP39.2); have hp_ : Kd.R (Kd.int .u8) 5 w40 w.heap.size (fun _ => True) (.slice (some ⟨go38, 0, none⟩) x14_3.length co38) y206 := (by rw [hw, Ny206.out]; exact HP39.1); clear HP39; have n0_ := Aside0.mk (hp_); have n1_ := Aside0.mk (blk_grown (g := gb197) (o := .cells #[.int .i64 t193, .int .u64 t194, .string t195] 27 (0, 0)) (by (with_reducible repeat (first | refine blk_drewN ?_ _ | refine blk_drew ?_ | refine blk_alloc ?_ _)); exact BK197.out) hg (Kd.R_ne HO_14.out BK197.out (by decide))); have n2_ := Aside0.mk (blk_grown (g := gb202) (o := .cells #[.int .i64 t198, .int .u64 t199, .string t200] 27 (0, 0)) (by (with_reducible repeat (first | refine blk_drewN ?_ _ | refine blk_drew ?_ | refine blk_alloc ?_ _)); exact BK202.out) hg (Kd.R_ne HO_14.out BK202.out (by decide))); have n3_ := Aside0.mk ((by rw [hw]; exact below_set (HB.out) GB38.out : Below w.heap.size w w40)); clear HO_14; clear BK197; clear BK202; clear HB; have HO_14 := n0_; have BK197 := n1_; have BK202 := n2_; have HB := n3_; clear n0_ n1_ n2_ n3_; clear hg hw hp_))
              go_roundg k3
              case measure => have := HJ5.out; have := HJ13.out; have := HK3.out; omega
              case rel => exact ⟨(y206), (wrap64 (x15_3 + 1)), (by first | rfl | (simp; done) | (simp [*]; done)), H', ⟨by have := HJ5.out; have := HJ13.out; have := HK3.out; omega⟩, ⟨by (with_reducible repeat (first | apply Kd.R_alloc | apply Kd.R_drewN | apply Kd.R_drew)); exact HO_14.out⟩, ⟨by (with_reducible repeat (first | refine blk_drewN ?_ _ | refine blk_drew ?_ | refine blk_alloc ?_ _)); exact BK197.out⟩, ⟨by (with_reducible repeat (first | refine blk_drewN ?_ _ | refine blk_drew ?_ | refine blk_alloc ?_ _)); exact BK202.out⟩, ⟨by repeat (first | (with_reducible first | exact HB.out | apply below_alloc | apply pw_below_drewN | apply below_drew1 | refine below_set ?_ GE197.out | refine below_set ?_ GE202.out) | exact HB.out)⟩⟩
             ·rw [if_neg c37] at H
              exact absurd H (by simp)
            ·rw [if_neg c36] at H
             exact absurd H (by simp)
           ·rw [if_neg c35] at H
            have c35b0 : decide (x15_3 < a1) = false := decide_eq_false c35
            clear c35
            by_cases c41 : 0 < (t195.size : Int)
            ·rw [if_pos c41] at H
             have c41b0 : decide (0 < (t195.size : Int)) = true := decide_eq_true c41
             have c41b1 : decide (0 < t195.size) = true := decide_eq_true (by omega)
             clear c41
             have HC43 := Aside0.mk H
             clear H
             have hnb44 := NB197_202.out
             have hnc44 := NB202_197.out
             have hcz45_0 : wr.cell? ⟨gb197, 0, none⟩ = some (.int .i64 t193) := (blk_cell BK197.out 0).trans rfl
             have hcz45_1 : wr.cell? ⟨gb197, 1, none⟩ = some (.int .u64 t194) := (blk_cell BK197.out 1).trans rfl
             have hcz45_2 : wr.cell? ⟨gb197, 2, none⟩ = some (.string t195) := (blk_cell BK197.out 2).trans rfl
             have hfz45_0 := blk_frozen BK197.out 0
             have hfz45_1 := blk_frozen BK197.out 1
             have hfz45_2 := blk_frozen BK197.out 2
             have p42 : 0 ≤ (0 : Int) := (by omega)
             have q42 : 0 < t195.size := (by have : (0 : Int) < (t195.size : Int) := of_decide_eq_true (by first | (with_reducible assumption) | assumption); omega)
             have hx42 : ∀ h : 0 < t195.size, ((t195[0]'h).toNat : Int) = bt t195 0 := bt_at t195 0
             clear p42
             have qi42 : (0 < (t195.size : Int)) = True := eq_true (of_decide_eq_true (by first | (with_reducible assumption) | assumption))
             replace q42 := eq_true q42
             go_upto_if 84 with (fail)
             go_cut [16, 17] (fun v16 v17 wc => ∃ (kq : Nat) (x16_42 : ByteArray) (x17_42 : ByteArray), v16 = .string x16_42 ∧ v17 = .string x17_42 ∧ Aside0 (stratumlaw06_ConvDigits.j3 kq a0 a2 a3 x14_3 x16_42 x17_42 t198 t199 t200 = some r) ∧ Aside0 (kq ≤ k3) ∧ Aside0 (Kd.R (Kd.int .u8) 5 wc w.heap.size (fun _ => True) v204 x14_3) ∧ Aside0 (wc.heap[gb197]? = some (.cells #[.int .i64 t193, .int .u64 t194, .string t195] 27 (0, 0))) ∧ Aside0 (wc.heap[gb202]? = some (.cells #[.int .i64 t198, .int .u64 t199, .string t200] 27 (0, 0))) ∧ Aside0 (Below w.heap.size w wc))
             case first => as_aux_lemma =>
              have H := HC43.out
              clear HC43
              by_cases c46 : (bt t195 0) = 45
              ·rw [if_pos c46] at H
               have c46b0 : ((bt t195 0) == 45) = true := beq_iff_eq.mpr c46
               have c46b1 : ((bt t195 0) != 45) = false := bne_eq_false_iff_eq.mpr c46
               clear c46
               (first | rw [c46b0] | (simp only [i64_w, i32_w]; rw [c46b0]) | skip)
               by_cases c47 : 1 ≤ (t195.size : Int)
               ·rw [if_pos c47] at H
                have c47b0 := eq_true c47
                have c47b1 : decide (1 ≤ (t195.size : Int)) = true := decide_eq_true c47
                clear c47
                have H' := Aside0.mk H
                clear H
                have hnb48 := NB197_202.out
                have hnc48 := NB202_197.out
                have hcz49_0 : wr.cell? ⟨gb197, 0, none⟩ = some (.int .i64 t193) := (blk_cell BK197.out 0).trans rfl
                have hcz49_1 : wr.cell? ⟨gb197, 1, none⟩ = some (.int .u64 t194) := (blk_cell BK197.out 1).trans rfl
                have hcz49_2 : wr.cell? ⟨gb197, 2, none⟩ = some (.string t195) := (blk_cell BK197.out 2).trans rfl
                have hfz49_0 := blk_frozen BK197.out 0
                have hfz49_1 := blk_frozen BK197.out 1
                have hfz49_2 := blk_frozen BK197.out 2
                go_wp2
                go_meet
                case rel => exact ⟨_, ((⟨#[45]⟩ : ByteArray)), (t195.extract 1 t195.size), (by first | rfl | (simp; done) | (simp [*]; done)), (by first | rfl | (simp; done) | (simp [*]; done)), H', ⟨by have := HJ5.out; have := HJ13.out; have := HK3.out; first | omega | exact Nat.le_refl _⟩, ⟨by (with_reducible repeat (first | apply Kd.R_alloc | apply Kd.R_drewN | apply Kd.R_drew)); exact HO_14.out⟩, ⟨by (with_reducible repeat (first | refine blk_drewN ?_ _ | refine blk_drew ?_ | refine blk_alloc ?_ _)); exact BK197.out⟩, ⟨by (with_reducible repeat (first | refine blk_drewN ?_ _ | refine blk_drew ?_ | refine blk_alloc ?_ _)); exact BK202.out⟩, ⟨by repeat (first | (with_reducible first | exact HB.out | apply below_alloc | apply pw_below_drewN | apply below_drew1 | refine below_set ?_ GE197.out | refine below_set ?_ GE202.out) | exact HB.out)⟩⟩
               ·rw [if_neg c47] at H
                exact absurd H (by simp)
              ·rw [if_neg c46] at H
               have c46b0 : ((bt t195 0) == 45) = false := beq_eq_false_iff_ne.mpr c46
               have c46b1 : ((bt t195 0) != 45) = true := bne_iff_ne.mpr c46
               (first | rw [c46b0] | (simp only [i64_w, i32_w]; rw [c46b0]) | skip)
               have H' := Aside0.mk H
               clear H
               go_wp2
               go_meet
               case rel => exact ⟨_, ((⟨#[]⟩ : ByteArray)), (t195), (by first | rfl | (simp; done) | (simp [*]; done)), (by first | rfl | (simp; done) | (simp [*]; done)), H', ⟨by have := HJ5.out; have := HJ13.out; have := HK3.out; first | omega | exact Nat.le_refl _⟩, ⟨by (with_reducible repeat (first | apply Kd.R_alloc | apply Kd.R_drewN | apply Kd.R_drew)); exact HO_14.out⟩, ⟨by (with_reducible repeat (first | refine blk_drewN ?_ _ | refine blk_drew ?_ | refine blk_alloc ?_ _)); exact BK197.out⟩, ⟨by (with_reducible repeat (first | refine blk_drewN ?_ _ | refine blk_drew ?_ | refine blk_alloc ?_ _)); exact BK202.out⟩, ⟨by repeat (first | (with_reducible first | exact HB.out | apply below_alloc | apply pw_below_drewN | apply below_drew1 | refine below_set ?_ GE197.out | refine below_set ?_ GE202.out) | exact HB.out)⟩⟩
             case rest => as_aux_lemma =>
              clear HC43
              try clear c1
              try clear c2
              try clear p2
              try clear c3
              try clear p3
              try clear q3
              try clear hx3
              try clear c4
              try clear p4
              try clear q4
              try clear hx4
              try clear qi4
              try clear p6
              try clear c8
              try clear c9
              try clear c9b0
              try clear c10
              try clear c10b0
              try clear c11
              try clear c20
              try clear c22
              try clear c22b0
              try clear c22b1
              try clear c23
              try clear c23b0
              try clear c23b1
              try clear c24
              try clear c24b0
              try clear c24b1
              try clear c25
              try clear c27
              try clear c30
              try clear c31
              try clear c31b0
              try clear c31b1
              try clear c32
              try clear c32b0
              try clear c32b1
              try clear c35
              try clear c35b0
              try clear c36
              try clear c36b0
              try clear c37
              try clear c37b0
              try clear p38
              try clear q38
              try clear hx38
              try clear hf38
              try clear c41
              try clear c41b0
              try clear c41b1
              try clear p42
              try clear q42
              try clear hx42
              try clear qi42
              try clear c44
              try clear c46
              try clear c46b0
              try clear c46b1
              try clear c47
              try clear c47b0
              try clear c47b1
              try clear c48
              try clear hcz17_0
              try clear hcz17_1
              try clear hcz17_2
              try clear hcz21_0
              try clear hcz21_1
              try clear hcz21_2
              try clear hcz26_0
              try clear hcz26_1
              try clear hcz26_2
              try clear hcz28_0
              try clear hcz28_1
              try clear hcz28_2
              try clear hcz29_0
              try clear hcz29_1
              try clear hcz29_2
              try clear hcz45_0
              try clear hcz45_1
              try clear hcz45_2
              try clear hcz49_0
              try clear hcz49_1
              try clear hcz49_2
              try clear hfz17_0
              try clear hfz17_1
              try clear hfz17_2
              try clear hfz21_0
              try clear hfz21_1
              try clear hfz21_2
              try clear hfz26_0
              try clear hfz26_1
              try clear hfz26_2
              try clear hfz28_0
              try clear hfz28_1
              try clear hfz28_2
              try clear hfz29_0
              try clear hfz29_1
              try clear hfz29_2
              try clear hfz45_0
              try clear hfz45_1
              try clear hfz45_2
              try clear hfz49_0
              try clear hfz49_1
              try clear hfz49_2
              try clear hx38_0
              try clear p2
              try clear p38
              try clear p42
              try clear q38
              try clear q42
              obtain ⟨kq, x16_42, x17_42, rfl, rfl, HA, HJ42, HO_14, BK197, BK202, HB⟩ := hcut
              cases kq with
              | zero => exact absurd HA.out (by simp [stratumlaw06_ConvDigits.j3])
              | succ kj42 =>
               have H := HA.out
               clear HA
               simp only [stratumlaw06_ConvDigits.j3] at H
               by_cases c50 : x16_42.size + (strOfNums x14_3).size ≤ 9223372036854775807
               ·rw [if_pos c50] at H
                have c50b0 := eq_true c50
                have c50b1 : decide (x16_42.size + (strOfNums x14_3).size ≤ 9223372036854775807) = true := decide_eq_true c50
                try have c50b2 : (9223372036854775807 < x16_42.size + (strOfNums x14_3).size) = False := eq_false (Nat.not_lt.2 c50)
                by_cases c51 : (x16_42 ++ (strOfNums x14_3)).size + x17_42.size ≤ 9223372036854775807
                ·rw [if_pos c51] at H
                 have c51b0 := eq_true c51
                 have c51b1 : decide ((x16_42 ++ (strOfNums x14_3)).size + x17_42.size ≤ 9223372036854775807) = true := decide_eq_true c51
                 try have c51b2 : (9223372036854775807 < (x16_42 ++ (strOfNums x14_3)).size + x17_42.size) = False := eq_false (Nat.not_lt.2 c51)
                 replace H := Option.bind_eq_some_iff.mp H
                 obtain ⟨⟨t207, t208, t209, t210⟩, A520, H⟩ := H
                 replace H : (if (strOfNums x14_3).size + t200.size ≤ 9223372036854775807 then ((conv_Apply.f 5 4 0 ((strOfNums x14_3) ++ t200)).bind fun bt212 => (if t210 = 0 then (if bt212.2.2.2 = 0 then (if (!(t207 == 2) || (!(t208 == a0) || (!(t209.toList == ([] : List UInt8))))) = true then (stratumlaw06_ConvDigits.j4 kj42 a2 a3 true t198 t199 t200) else (stratumlaw06_ConvDigits.j4 kj42 a2 a3 (!(bt212.1 == 1) || (!(bt212.2.1 == a0) || (!(bt212.2.2.1.toList == ([] : List UInt8))))) t198 t199 t200)) else (stratumlaw06_ConvDigits.j4 kj42 a2 a3 true t198 t199 t200)) else (stratumlaw06_ConvDigits.j4 kj42 a2 a3 true t198 t199 t200))) else (none)) = some r := H
                 have A52 := Aside0.mk A520
                 clear A520
                 by_cases c53 : (strOfNums x14_3).size + t200.size ≤ 9223372036854775807
                 ·rw [if_pos c53] at H
                  have c53b0 := eq_true c53
                  have c53b1 : decide ((strOfNums x14_3).size + t200.size ≤ 9223372036854775807) = true := decide_eq_true c53
                  try have c53b2 : (9223372036854775807 < (strOfNums x14_3).size + t200.size) = False := eq_false (Nat.not_lt.2 c53)
                  replace H := Option.bind_eq_some_iff.mp H
                  obtain ⟨⟨t212, t213, t214, t215⟩, A540, H⟩ := H
                  replace H : (if t210 = 0 then (if t215 = 0 then (if (!(t207 == 2) || (!(t208 == a0) || (!(t209.toList == ([] : List UInt8))))) = true then (stratumlaw06_ConvDigits.j4 kj42 a2 a3 true t198 t199 t200) else (stratumlaw06_ConvDigits.j4 kj42 a2 a3 (!(t212 == 1) || (!(t213 == a0) || (!(t214.toList == ([] : List UInt8))))) t198 t199 t200)) else (stratumlaw06_ConvDigits.j4 kj42 a2 a3 true t198 t199 t200)) else (stratumlaw06_ConvDigits.j4 kj42 a2 a3 true t198 t199 t200)) = some r := H
                  have A54 := Aside0.mk A540
                  clear A540
                  have HC55 := Aside0.mk H
                  clear H
                  have hcv56 := own_string (P := Tryz.prog) Tryz.underlying33 Tryz.underlying5 Tryz.underlying9 (Kd.own_of_R HO_14.out)
                  go_upto_region 20 with (first | ((with_reducible refine gate_callee (f := 11) rfl ?_); refine goesL_ (some 96) rfl rfl Tryz.func11 (by kernel_rfl) rfl #[.int .i64 6, .agg #[.int .i64 4, .int .u64 0, .string ((x16_42 ++ (strOfNums x14_3)) ++ x17_42)]] rfl (by (try simp only [List.map_toArray, List.map_cons, List.map_nil]); first | done | rfl | (simp only [List.length_drop, List.length_take]; rfl)) ?_; (with_reducible refine (conv_Apply.calls 6 4 0 ((x16_42 ++ (strOfNums x14_3)) ++ x17_42) t207 t208 t209 t210 _ ?side1 A52.out).mono ?_); (case side1 => exact laid_below HL.out (by repeat (first | (with_reducible first | exact HB.out | apply below_alloc | apply pw_below_drewN | apply below_drew1 | refine below_set ?_ GE197.out | refine below_set ?_ GE202.out) | exact HB.out))); rintro e w57 ⟨rfl, hb⟩; refine ⟨_, rfl, ?_⟩; have n0_ := Aside0.mk (Kd.R_below (by (with_reducible repeat (first | apply Kd.R_alloc | apply Kd.R_drewN | apply Kd.R_drew)); exact HO_14.out) hb); have n1_ := Aside0.mk (blk_below (g := gb197) (o := .cells #[.int .i64 t193, .int .u64 t194, .string t195] 27 (0, 0)) (by (with_reducible repeat (first | refine blk_drewN ?_ _ | refine blk_drew ?_ | refine blk_alloc ?_ _)); exact BK197.out) hb); have n2_ := Aside0.mk (blk_below (g := gb202) (o := .cells #[.int .i64 t198, .int .u64 t199, .string t200] 27 (0, 0)) (by (with_reducible repeat (first | refine blk_drewN ?_ _ | refine blk_drew ?_ | refine blk_alloc ?_ _)); exact BK202.out) hb); have n3_ := Aside0.mk (below_step (by repeat (first | (with_reducible first | exact HB.out | apply below_alloc | apply pw_below_drewN | apply below_drew1 | refine below_set ?_ GE197.out | refine below_set ?_ GE202.out) | exact HB.out)) hb); clear HO_14; clear BK197; clear BK202; clear HB; have HO_14 := n0_; have hcvA := own_string (P := Tryz.prog) Tryz.underlying33 Tryz.underlying5 Tryz.underlying9 (Kd.own_of_R HO_14.out); have BK197 := n1_; have BK202 := n2_; have HB := n3_; clear n0_ n1_ n2_ n3_; (try clear hb); (try clear hb2); (try clear hk); (try clear hi)) | ((with_reducible refine gate_dst (N := 18) rfl ?_); (try (refine gate_guard (by rfl) ?_; dsimp only)); refine box_event ?hg (N := 18) ?hd (cs := #[.int .i64 0, .int .u64 0, .string (⟨#[]⟩ : ByteArray)]) (t := 27) ?hr ?_; (case hd => rfl); (case hg => rfl); (case hr => first | (go_simp; done) | (go_simp; rfl)); intro gb211 hg w58 hbox hb; have hcvB := fun (a b c : Value) => own_string (P := Tryz.prog) Tryz.underlying33 Tryz.underlying5 Tryz.underlying9 (Kd.own_of_R (Kd.R_below (by (with_reducible repeat (first | apply Kd.R_alloc | apply Kd.R_drewN | apply Kd.R_drew)); exact HO_14.out) (below_set (g := gb211) (j := 2) (v := c) (below_set (g := gb211) (j := 1) (v := b) (below_set (g := gb211) (j := 0) (v := a) hb (Nat.le_of_eq hg.symm)) (Nat.le_of_eq hg.symm)) (Nat.le_of_eq hg.symm)))); have n0_ := Aside0.mk (Kd.R_below (by (with_reducible repeat (first | apply Kd.R_alloc | apply Kd.R_drewN | apply Kd.R_drew)); exact HO_14.out) hb); have n1_ := Aside0.mk (blk_below (g := gb197) (o := .cells #[.int .i64 t193, .int .u64 t194, .string t195] 27 (0, 0)) (by (with_reducible repeat (first | refine blk_drewN ?_ _ | refine blk_drew ?_ | refine blk_alloc ?_ _)); exact BK197.out) hb); have n2_ := Aside0.mk (blk_below (g := gb202) (o := .cells #[.int .i64 t198, .int .u64 t199, .string t200] 27 (0, 0)) (by (with_reducible repeat (first | refine blk_drewN ?_ _ | refine blk_drew ?_ | refine blk_alloc ?_ _)); exact BK202.out) hb); have n3_ := Aside0.mk (below_step (by repeat (first | (with_reducible first | exact HB.out | apply below_alloc | apply pw_below_drewN | apply below_drew1 | refine below_set ?_ GE197.out | refine below_set ?_ GE202.out) | exact HB.out)) hb); have n4_ := Aside0.mk (hbox); have n5_ := Aside0.mk ((by rw [hg]; exact (below_size (by repeat (first | (with_reducible first | exact HB.out | apply below_alloc | apply pw_below_drewN | apply below_drew1 | refine below_set ?_ GE197.out | refine below_set ?_ GE202.out) | exact HB.out))) : w.heap.size ≤ gb211)); have n6_ := Aside0.mk ((by rw [hg]; exact (below_size (by repeat (first | (with_reducible first | exact HB.out | apply below_alloc | apply pw_below_drewN | apply below_drew1 | refine below_set ?_ GE197.out | refine below_set ?_ GE202.out) | exact HB.out))) : w.heap.size ≤ gb211)); have n7_ := Aside0.mk ((by rw [hg]; exact Nat.ne_of_lt (blk_lt (g := gb197) (o := .cells #[.int .i64 t193, .int .u64 t194, .string t195] 27 (0, 0)) (by (with_reducible repeat (first | refine blk_drewN ?_ _ | refine blk_drew ?_ | refine blk_alloc ?_ _)); exact BK197.out)) : gb197 ≠ gb211)); have n8_ := Aside0.mk ((by rw [hg]; exact Nat.ne_of_gt (blk_lt (g := gb197) (o := .cells #[.int .i64 t193, .int .u64 t194, .string t195] 27 (0, 0)) (by (with_reducible repeat (first | refine blk_drewN ?_ _ | refine blk_drew ?_ | refine blk_alloc ?_ _)); exact BK197.out)) : gb211 ≠ gb197)); have n9_ := Aside0.mk ((by rw [hg]; exact Nat.ne_of_lt (blk_lt (g := gb202) (o := .cells #[.int .i64 t198, .int .u64 t199, .string t200] 27 (0, 0)) (by (with_reducible repeat (first | refine blk_drewN ?_ _ | refine blk_drew ?_ | refine blk_alloc ?_ _)); exact BK202.out)) : gb202 ≠ gb211)); have n10_ := Aside0.mk ((by rw [hg]; exact Nat.ne_of_gt (blk_lt (g := gb202) (o := .cells #[.int .i64 t198, .int .u64 t199, .string t200] 27 (0, 0)) (by (with_reducible repeat (first | refine blk_drewN ?_ _ | refine blk_drew ?_ | refine blk_alloc ?_ _)); exact BK202.out)) : gb211 ≠ gb202)); clear HO_14; clear BK197; clear BK202; clear HB; have HO_14 := n0_; have hcvA := own_string (P := Tryz.prog) Tryz.underlying33 Tryz.underlying5 Tryz.underlying9 (Kd.own_of_R HO_14.out); have BK197 := n1_; have BK202 := n2_; have HB := n3_; have BK211 := n4_; have GW211 := n5_; have GE211 := n6_; have NB197_211 := n7_; have NB211_197 := n8_; have NB202_211 := n9_; have NB211_202 := n10_; clear n0_ n1_ n2_ n3_ n4_ n5_ n6_ n7_ n8_ n9_ n10_; clear hb hbox hg; have hnb59 := NB211_197.out; have hnc59 := NB197_211.out; have hnb60 := NB211_202.out; have hnc60 := NB202_211.out; have hcz61_0 : w58.cell? ⟨gb211, 0, none⟩ = some (.int .i64 0) := (blk_cell BK211.out 0).trans rfl; have hcz61_1 : w58.cell? ⟨gb211, 1, none⟩ = some (.int .u64 0) := (blk_cell BK211.out 1).trans rfl; have hcz61_2 : w58.cell? ⟨gb211, 2, none⟩ = some (.string (⟨#[]⟩ : ByteArray)) := (blk_cell BK211.out 2).trans rfl; have hfz61_0 := blk_frozen BK211.out 0; have hfz61_1 := blk_frozen BK211.out 1; have hfz61_2 := blk_frozen BK211.out 2; have hcv62 := own_string (P := Tryz.prog) Tryz.underlying33 Tryz.underlying5 Tryz.underlying9 (Kd.own_of_R HO_14.out); have hnb63 := NB202_197.out; have hnc63 := NB197_202.out; have hcz64_0 : w58.cell? ⟨gb202, 0, none⟩ = some (.int .i64 t198) := (blk_cell BK202.out 0).trans rfl; have hcz64_1 : w58.cell? ⟨gb202, 1, none⟩ = some (.int .u64 t199) := (blk_cell BK202.out 1).trans rfl; have hcz64_2 : w58.cell? ⟨gb202, 2, none⟩ = some (.string t200) := (blk_cell BK202.out 2).trans rfl; have hfz64_0 := blk_frozen BK202.out 0; have hfz64_1 := blk_frozen BK202.out 1; have hfz64_2 := blk_frozen BK202.out 2) | ((with_reducible refine gate_callee (f := 11) rfl ?_); refine goesL_ (some 106) rfl rfl Tryz.func11 (by kernel_rfl) rfl #[.int .i64 5, .agg #[.int .i64 4, .int .u64 0, .string ((strOfNums x14_3) ++ t200)]] rfl (by (try simp only [List.map_toArray, List.map_cons, List.map_nil]); first | done | rfl | (simp only [List.length_drop, List.length_take]; rfl)) ?_; (with_reducible refine (conv_Apply.calls 5 4 0 ((strOfNums x14_3) ++ t200) t212 t213 t214 t215 _ ?side1 A54.out).mono ?_); (case side1 => exact laid_below HL.out (by repeat (first | (with_reducible first | exact HB.out | apply below_alloc | apply pw_below_drewN | apply below_drew1 | refine below_set ?_ GE197.out | refine below_set ?_ GE202.out | refine below_set ?_ GE211.out) | exact HB.out))); rintro e w65 ⟨rfl, hb⟩; refine ⟨_, rfl, ?_⟩; have n0_ := Aside0.mk (Kd.R_below (by (with_reducible repeat (first | apply Kd.R_alloc | apply Kd.R_drewN | apply Kd.R_drew)); exact (Kd.R_mono (Kd.R_far (p := ⟨gb211, 2, none⟩) (Kd.R_far (p := ⟨gb211, 1, none⟩) (Kd.R_far (p := ⟨gb211, 0, none⟩) (Kd.R_types HO_14.out BK211.out (by decide)) (fun _ hk => hk.2) (.int .i64 t207)) (fun _ hk => hk.2) (.int .u64 t208)) (fun _ hk => hk.2) (.string t209)) (fun _ h_ => h_.1))) hb); have n1_ := Aside0.mk (blk_below (g := gb197) (o := .cells #[.int .i64 t193, .int .u64 t194, .string t195] 27 (0, 0)) (by (with_reducible repeat (first | refine blk_drewN ?_ _ | refine blk_drew ?_ | refine blk_alloc ?_ _)); refine blk_far ?_ NB197_211.out _; (with_reducible repeat (first | refine blk_drewN ?_ _ | refine blk_drew ?_ | refine blk_alloc ?_ _)); refine blk_far ?_ NB197_211.out _; (with_reducible repeat (first | refine blk_drewN ?_ _ | refine blk_drew ?_ | refine blk_alloc ?_ _)); refine blk_far ?_ NB197_211.out _; (with_reducible repeat (first | refine blk_drewN ?_ _ | refine blk_drew ?_ | refine blk_alloc ?_ _)); exact BK197.out) hb); have n2_ := Aside0.mk (blk_below (g := gb202) (o := .cells #[.int .i64 t198, .int .u64 t199, .string t200] 27 (0, 0)) (by (with_reducible repeat (first | refine blk_drewN ?_ _ | refine blk_drew ?_ | refine blk_alloc ?_ _)); refine blk_far ?_ NB202_211.out _; (with_reducible repeat (first | refine blk_drewN ?_ _ | refine blk_drew ?_ | refine blk_alloc ?_ _)); refine blk_far ?_ NB202_211.out _; (with_reducible repeat (first | refine blk_drewN ?_ _ | refine blk_drew ?_ | refine blk_alloc ?_ _)); refine blk_far ?_ NB202_211.out _; (with_reducible repeat (first | refine blk_drewN ?_ _ | refine blk_drew ?_ | refine blk_alloc ?_ _)); exact BK202.out) hb); have n3_ := Aside0.mk (blk_below (g := gb211) (o := .cells #[.int .i64 t207, .int .u64 t208, .string t209] 27 (0, 0)) (by (with_reducible repeat (first | refine blk_drewN ?_ _ | refine blk_drew ?_ | refine blk_alloc ?_ _)); refine blk_put (cs := #[.int .i64 t207, .int .u64 t208, .string (⟨#[]⟩ : ByteArray)]) ?_ 2 _ rfl; (with_reducible repeat (first | refine blk_drewN ?_ _ | refine blk_drew ?_ | refine blk_alloc ?_ _)); refine blk_put (cs := #[.int .i64 t207, .int .u64 0, .string (⟨#[]⟩ : ByteArray)]) ?_ 1 _ rfl; (with_reducible repeat (first | refine blk_drewN ?_ _ | refine blk_drew ?_ | refine blk_alloc ?_ _)); refine blk_put (cs := #[.int .i64 0, .int .u64 0, .string (⟨#[]⟩ : ByteArray)]) ?_ 0 _ rfl; (with_reducible repeat (first | refine blk_drewN ?_ _ | refine blk_drew ?_ | refine blk_alloc ?_ _)); exact BK211.out) hb); have n4_ := Aside0.mk (below_step (by repeat (first | (with_reducible first | exact HB.out | apply below_alloc | apply pw_below_drewN | apply below_drew1 | refine below_set ?_ GE197.out | refine below_set ?_ GE202.out | refine below_set ?_ GE211.out) | exact HB.out)) hb); clear HO_14; clear BK197; clear BK202; clear BK211; clear HB; have HO_14 := n0_; have hcvA := own_string (P := Tryz.prog) Tryz.underlying33 Tryz.underlying5 Tryz.underlying9 (Kd.own_of_R HO_14.out); have BK197 := n1_; have BK202 := n2_; have BK211 := n3_; have HB := n4_; clear n0_ n1_ n2_ n3_ n4_; (try clear hb); (try clear hb2); (try clear hk); (try clear hi)) | ((with_reducible refine gate_dst (N := 19) rfl ?_); (try (refine gate_guard (by rfl) ?_; dsimp only)); refine box_event ?hg (N := 19) ?hd (cs := #[.int .i64 0, .int .u64 0, .string (⟨#[]⟩ : ByteArray)]) (t := 27) ?hr ?_; (case hd => rfl); (case hg => rfl); (case hr => first | (go_simp; done) | (go_simp; rfl)); intro gb216 hg w66 hbox hb; have hcvB := fun (a b c : Value) => own_string (P := Tryz.prog) Tryz.underlying33 Tryz.underlying5 Tryz.underlying9 (Kd.own_of_R (Kd.R_below (by (with_reducible repeat (first | apply Kd.R_alloc | apply Kd.R_drewN | apply Kd.R_drew)); exact HO_14.out) (below_set (g := gb216) (j := 2) (v := c) (below_set (g := gb216) (j := 1) (v := b) (below_set (g := gb216) (j := 0) (v := a) hb (Nat.le_of_eq hg.symm)) (Nat.le_of_eq hg.symm)) (Nat.le_of_eq hg.symm)))); have n0_ := Aside0.mk (Kd.R_below (by (with_reducible repeat (first | apply Kd.R_alloc | apply Kd.R_drewN | apply Kd.R_drew)); exact HO_14.out) hb); have n1_ := Aside0.mk (blk_below (g := gb197) (o := .cells #[.int .i64 t193, .int .u64 t194, .string t195] 27 (0, 0)) (by (with_reducible repeat (first | refine blk_drewN ?_ _ | refine blk_drew ?_ | refine blk_alloc ?_ _)); exact BK197.out) hb); have n2_ := Aside0.mk (blk_below (g := gb202) (o := .cells #[.int .i64 t198, .int .u64 t199, .string t200] 27 (0, 0)) (by (with_reducible repeat (first | refine blk_drewN ?_ _ | refine blk_drew ?_ | refine blk_alloc ?_ _)); exact BK202.out) hb); have n3_ := Aside0.mk (blk_below (g := gb211) (o := .cells #[.int .i64 t207, .int .u64 t208, .string t209] 27 (0, 0)) (by (with_reducible repeat (first | refine blk_drewN ?_ _ | refine blk_drew ?_ | refine blk_alloc ?_ _)); exact BK211.out) hb); have n4_ := Aside0.mk (below_step (by repeat (first | (with_reducible first | exact HB.out | apply below_alloc | apply pw_below_drewN | apply below_drew1 | refine below_set ?_ GE197.out | refine below_set ?_ GE202.out | refine below_set ?_ GE211.out) | exact HB.out)) hb); have n5_ := Aside0.mk (hbox); have n6_ := Aside0.mk ((by rw [hg]; exact (below_size (by repeat (first | (with_reducible first | exact HB.out | apply below_alloc | apply pw_below_drewN | apply below_drew1 | refine below_set ?_ GE197.out | refine below_set ?_ GE202.out | refine below_set ?_ GE211.out) | exact HB.out))) : w.heap.size ≤ gb216)); have n7_ := Aside0.mk ((by rw [hg]; exact (below_size (by repeat (first | (with_reducible first | exact HB.out | apply below_alloc | apply pw_below_drewN | apply below_drew1 | refine below_set ?_ GE197.out | refine below_set ?_ GE202.out | refine below_set ?_ GE211.out) | exact HB.out))) : w.heap.size ≤ gb216)); have n8_ := Aside0.mk ((by rw [hg]; exact Nat.ne_of_lt (blk_lt (g := gb197) (o := .cells #[.int .i64 t193, .int .u64 t194, .string t195] 27 (0, 0)) (by (with_reducible repeat (first | refine blk_drewN ?_ _ | refine blk_drew ?_ | refine blk_alloc ?_ _)); exact BK197.out)) : gb197 ≠ gb216)); have n9_ := Aside0.mk ((by rw [hg]; exact Nat.ne_of_gt (blk_lt (g := gb197) (o := .cells #[.int .i64 t193, .int .u64 t194, .string t195] 27 (0, 0)) (by (with_reducible repeat (first | refine blk_drewN ?_ _ | refine blk_drew ?_ | refine blk_alloc ?_ _)); exact BK197.out)) : gb216 ≠ gb197)); have n10_ := Aside0.mk ((by rw [hg]; exact Nat.ne_of_lt (blk_lt (g := gb202) (o := .cells #[.int .i64 t198, .int .u64 t199, .string t200] 27 (0, 0)) (by (with_reducible repeat (first | refine blk_drewN ?_ _ | refine blk_drew ?_ | refine blk_alloc ?_ _)); exact BK202.out)) : gb202 ≠ gb216)); have n11_ := Aside0.mk ((by rw [hg]; exact Nat.ne_of_gt (blk_lt (g := gb202) (o := .cells #[.int .i64 t198, .int .u64 t199, .string t200] 27 (0, 0)) (by (with_reducible repeat (first | refine blk_drewN ?_ _ | refine blk_drew ?_ | refine blk_alloc ?_ _)); exact BK202.out)) : gb216 ≠ gb202)); have n12_ := Aside0.mk ((by rw [hg]; exact Nat.ne_of_lt (blk_lt (g := gb211) (o := .cells #[.int .i64 t207, .int .u64 t208, .string t209] 27 (0, 0)) (by (with_reducible repeat (first | refine blk_drewN ?_ _ | refine blk_drew ?_ | refine blk_alloc ?_ _)); exact BK211.out)) : gb211 ≠ gb216)); have n13_ := Aside0.mk ((by rw [hg]; exact Nat.ne_of_gt (blk_lt (g := gb211) (o := .cells #[.int .i64 t207, .int .u64 t208, .string t209] 27 (0, 0)) (by (with_reducible repeat (first | refine blk_drewN ?_ _ | refine blk_drew ?_ | refine blk_alloc ?_ _)); exact BK211.out)) : gb216 ≠ gb211)); clear HO_14; clear BK197; clear BK202; clear BK211; clear HB; have HO_14 := n0_; have hcvA := own_string (P := Tryz.prog) Tryz.underlying33 Tryz.underlying5 Tryz.underlying9 (Kd.own_of_R HO_14.out); have BK197 := n1_; have BK202 := n2_; have BK211 := n3_; have HB := n4_; have BK216 := n5_; have GW216 := n6_; have GE216 := n7_; have NB197_216 := n8_; have NB216_197 := n9_; have NB202_216 := n10_; have NB216_202 := n11_; have NB211_216 := n12_; have NB216_211 := n13_; clear n0_ n1_ n2_ n3_ n4_ n5_ n6_ n7_ n8_ n9_ n10_ n11_ n12_ n13_; clear hb hbox hg; have hnb67 := NB216_197.out; have hnc67 := NB197_216.out; have hnb68 := NB216_202.out; have hnc68 := NB202_216.out; have hnb69 := NB216_211.out; have hnc69 := NB211_216.out; have hcz70_0 : w66.cell? ⟨gb216, 0, none⟩ = some (.int .i64 0) := (blk_cell BK216.out 0).trans rfl; have hcz70_1 : w66.cell? ⟨gb216, 1, none⟩ = some (.int .u64 0) := (blk_cell BK216.out 1).trans rfl; have hcz70_2 : w66.cell? ⟨gb216, 2, none⟩ = some (.string (⟨#[]⟩ : ByteArray)) := (blk_cell BK216.out 2).trans rfl; have hfz70_0 := blk_frozen BK216.out 0; have hfz70_1 := blk_frozen BK216.out 1; have hfz70_2 := blk_frozen BK216.out 2))
                  (try simp only [Act.put, List.setIfInBounds_toArray, List.set_cons_zero, List.set_cons_succ])
                  go_cut [126] (fun v126 wc => ∃ (kq : Nat) (x126_54 : Bool), v126 = .bool x126_54 ∧ Aside0 (stratumlaw06_ConvDigits.j4 kq a2 a3 x126_54 t198 t199 t200 = some r) ∧ Aside0 (kq ≤ kj42) ∧ Aside0 (wc.heap[gb197]? = some (.cells #[.int .i64 t193, .int .u64 t194, .string t195] 27 (0, 0))) ∧ Aside0 (wc.heap[gb202]? = some (.cells #[.int .i64 t198, .int .u64 t199, .string t200] 27 (0, 0))) ∧ Aside0 (wc.heap[gb211]? = some (.cells #[.int .i64 t207, .int .u64 t208, .string t209] 27 (0, 0))) ∧ Aside0 (wc.heap[gb216]? = some (.cells #[.int .i64 t212, .int .u64 t213, .string t214] 27 (0, 0))) ∧ Aside0 (Below w.heap.size w wc))
                  case first => as_aux_lemma =>
                   have H := HC55.out
                   clear HC55
                   by_cases c71 : t210 = 0
                   ·rw [if_pos c71] at H
                    have c71b0 : (t210 == 0) = true := beq_iff_eq.mpr c71
                    have c71b1 : (t210 != 0) = false := bne_eq_false_iff_eq.mpr c71
                    clear c71
                    (first | rw [c71b0] | (simp only [i64_w, i32_w]; rw [c71b0]) | skip)
                    by_cases c72 : t215 = 0
                    ·rw [if_pos c72] at H
                     have c72b0 : (t215 == 0) = true := beq_iff_eq.mpr c72
                     have c72b1 : (t215 != 0) = false := bne_eq_false_iff_eq.mpr c72
                     clear c72
                     by_cases c73 : (!(t207 == 2) || (!(t208 == a0) || (!(t209.toList == ([] : List UInt8))))) = true
                     ·rw [if_pos c73] at H
                      have c73b0 : (!(t207 == 2) || (!(t208 == a0) || (!(t209.toList == ([] : List UInt8))))) = true := c73
                      have c73b9 : (t207 = 2 ∧ t208 = a0 ∧ t209.toList = ([] : List UInt8)) = False := eq_false (by intro q_; revert c73b0; simp [q_])
                      have c73b7 : (¬t207 = 2 ∨ ¬t208 = a0 ∨ ¬t209.toList = ([] : List UInt8)) = True := eq_true (by simpa using c73b0)
                      clear c73
                      have H' := Aside0.mk H
                      clear H
                      have hnb74 := NB211_197.out
                      have hnc74 := NB197_211.out
                      have hnb75 := NB211_202.out
                      have hnc75 := NB202_211.out
                      have hnb76 := NB211_216.out
                      have hnc76 := NB216_211.out
                      have hcz77_0 : w66.cell? ⟨gb211, 0, none⟩ = some (.int .i64 t207) := (blk_cell BK211.out 0).trans rfl
                      have hcz77_1 : w66.cell? ⟨gb211, 1, none⟩ = some (.int .u64 t208) := (blk_cell BK211.out 1).trans rfl
                      have hcz77_2 : w66.cell? ⟨gb211, 2, none⟩ = some (.string t209) := (blk_cell BK211.out 2).trans rfl
                      have hfz77_0 := blk_frozen BK211.out 0
                      have hfz77_1 := blk_frozen BK211.out 1
                      have hfz77_2 := blk_frozen BK211.out 2
                      go_wp2
                      go_meet
                      case rel => exact ⟨_, (true), (by first | rfl | (simp; done) | (simp [*]; done)), H', ⟨by have := HJ5.out; have := HJ13.out; have := HK3.out; have := HJ42.out; first | omega | exact Nat.le_refl _⟩, ⟨by (with_reducible repeat (first | refine blk_drewN ?_ _ | refine blk_drew ?_ | refine blk_alloc ?_ _)); refine blk_far ?_ NB197_216.out _; (with_reducible repeat (first | refine blk_drewN ?_ _ | refine blk_drew ?_ | refine blk_alloc ?_ _)); refine blk_far ?_ NB197_216.out _; (with_reducible repeat (first | refine blk_drewN ?_ _ | refine blk_drew ?_ | refine blk_alloc ?_ _)); refine blk_far ?_ NB197_216.out _; (with_reducible repeat (first | refine blk_drewN ?_ _ | refine blk_drew ?_ | refine blk_alloc ?_ _)); exact BK197.out⟩, ⟨by (with_reducible repeat (first | refine blk_drewN ?_ _ | refine blk_drew ?_ | refine blk_alloc ?_ _)); refine blk_far ?_ NB202_216.out _; (with_reducible repeat (first | refine blk_drewN ?_ _ | refine blk_drew ?_ | refine blk_alloc ?_ _)); refine blk_far ?_ NB202_216.out _; (with_reducible repeat (first | refine blk_drewN ?_ _ | refine blk_drew ?_ | refine blk_alloc ?_ _)); refine blk_far ?_ NB202_216.out _; (with_reducible repeat (first | refine blk_drewN ?_ _ | refine blk_drew ?_ | refine blk_alloc ?_ _)); exact BK202.out⟩, ⟨by (with_reducible repeat (first | refine blk_drewN ?_ _ | refine blk_drew ?_ | refine blk_alloc ?_ _)); refine blk_far ?_ NB211_216.out _; (with_reducible repeat (first | refine blk_drewN ?_ _ | refine blk_drew ?_ | refine blk_alloc ?_ _)); refine blk_far ?_ NB211_216.out _; (with_reducible repeat (first | refine blk_drewN ?_ _ | refine blk_drew ?_ | refine blk_alloc ?_ _)); refine blk_far ?_ NB211_216.out _; (with_reducible repeat (first | refine blk_drewN ?_ _ | refine blk_drew ?_ | refine blk_alloc ?_ _)); exact BK211.out⟩, ⟨by (with_reducible repeat (first | refine blk_drewN ?_ _ | refine blk_drew ?_ | refine blk_alloc ?_ _)); refine blk_put (cs := #[.int .i64 t212, .int .u64 t213, .string (⟨#[]⟩ : ByteArray)]) ?_ 2 _ rfl; (with_reducible repeat (first | refine blk_drewN ?_ _ | refine blk_drew ?_ | refine blk_alloc ?_ _)); refine blk_put (cs := #[.int .i64 t212, .int .u64 0, .string (⟨#[]⟩ : ByteArray)]) ?_ 1 _ rfl; (with_reducible repeat (first | refine blk_drewN ?_ _ | refine blk_drew ?_ | refine blk_alloc ?_ _)); refine blk_put (cs := #[.int .i64 0, .int .u64 0, .string (⟨#[]⟩ : ByteArray)]) ?_ 0 _ rfl; (with_reducible repeat (first | refine blk_drewN ?_ _ | refine blk_drew ?_ | refine blk_alloc ?_ _)); exact BK216.out⟩, ⟨by repeat (first | (with_reducible first | exact HB.out | apply below_alloc | apply pw_below_drewN | apply below_drew1 | refine below_set ?_ GE197.out | refine below_set ?_ GE202.out | refine below_set ?_ GE211.out | refine below_set ?_ GE216.out) | exact HB.out)⟩⟩
                     ·rw [if_neg c73] at H
                      have c73b0 : (!(t207 == 2) || (!(t208 == a0) || (!(t209.toList == ([] : List UInt8))))) = false := by simpa using c73
                      (try (have c73b9 : (t207 = 2 ∧ t208 = a0 ∧ t209.toList = ([] : List UInt8)) = True := eq_true (by simpa using c73b0)))
                      have c73b7 : (¬t207 = 2 ∨ ¬t208 = a0 ∨ ¬t209.toList = ([] : List UInt8)) = False := eq_false (by simpa using c73b0)
                      clear c73
                      have H' := Aside0.mk H
                      clear H
                      have hnb78 := NB211_197.out
                      have hnc78 := NB197_211.out
                      have hnb79 := NB211_202.out
                      have hnc79 := NB202_211.out
                      have hnb80 := NB211_216.out
                      have hnc80 := NB216_211.out
                      have hcz81_0 : w66.cell? ⟨gb211, 0, none⟩ = some (.int .i64 t207) := (blk_cell BK211.out 0).trans rfl
                      have hcz81_1 : w66.cell? ⟨gb211, 1, none⟩ = some (.int .u64 t208) := (blk_cell BK211.out 1).trans rfl
                      have hcz81_2 : w66.cell? ⟨gb211, 2, none⟩ = some (.string t209) := (blk_cell BK211.out 2).trans rfl
                      have hfz81_0 := blk_frozen BK211.out 0
                      have hfz81_1 := blk_frozen BK211.out 1
                      have hfz81_2 := blk_frozen BK211.out 2
                      have hnb82 := NB216_197.out
                      have hnc82 := NB197_216.out
                      have hnb83 := NB216_202.out
                      have hnc83 := NB202_216.out
                      have hcz84_0 : w66.cell? ⟨gb216, 0, none⟩ = some (.int .i64 0) := (blk_cell BK216.out 0).trans rfl
                      have hcz84_1 : w66.cell? ⟨gb216, 1, none⟩ = some (.int .u64 0) := (blk_cell BK216.out 1).trans rfl
                      have hcz84_2 : w66.cell? ⟨gb216, 2, none⟩ = some (.string (⟨#[]⟩ : ByteArray)) := (blk_cell BK216.out 2).trans rfl
                      have hfz84_0 := blk_frozen BK216.out 0
                      have hfz84_1 := blk_frozen BK216.out 1
                      have hfz84_2 := blk_frozen BK216.out 2
                      go_wp2
                      go_meet
                      case rel => exact ⟨_, ((!(t212 == 1) || (!(t213 == a0) || (!(t214.toList == ([] : List UInt8)))))), (by first | rfl | (simp; done) | (simp [*]; done)), H', ⟨by have := HJ5.out; have := HJ13.out; have := HK3.out; have := HJ42.out; first | omega | exact Nat.le_refl _⟩, ⟨by (with_reducible repeat (first | refine blk_drewN ?_ _ | refine blk_drew ?_ | refine blk_alloc ?_ _)); refine blk_far ?_ NB197_216.out _; (with_reducible repeat (first | refine blk_drewN ?_ _ | refine blk_drew ?_ | refine blk_alloc ?_ _)); refine blk_far ?_ NB197_216.out _; (with_reducible repeat (first | refine blk_drewN ?_ _ | refine blk_drew ?_ | refine blk_alloc ?_ _)); refine blk_far ?_ NB197_216.out _; (with_reducible repeat (first | refine blk_drewN ?_ _ | refine blk_drew ?_ | refine blk_alloc ?_ _)); exact BK197.out⟩, ⟨by (with_reducible repeat (first | refine blk_drewN ?_ _ | refine blk_drew ?_ | refine blk_alloc ?_ _)); refine blk_far ?_ NB202_216.out _; (with_reducible repeat (first | refine blk_drewN ?_ _ | refine blk_drew ?_ | refine blk_alloc ?_ _)); refine blk_far ?_ NB202_216.out _; (with_reducible repeat (first | refine blk_drewN ?_ _ | refine blk_drew ?_ | refine blk_alloc ?_ _)); refine blk_far ?_ NB202_216.out _; (with_reducible repeat (first | refine blk_drewN ?_ _ | refine blk_drew ?_ | refine blk_alloc ?_ _)); exact BK202.out⟩, ⟨by (with_reducible repeat (first | refine blk_drewN ?_ _ | refine blk_drew ?_ | refine blk_alloc ?_ _)); refine blk_far ?_ NB211_216.out _; (with_reducible repeat (first | refine blk_drewN ?_ _ | refine blk_drew ?_ | refine blk_alloc ?_ _)); refine blk_far ?_ NB211_216.out _; (with_reducible repeat (first | refine blk_drewN ?_ _ | refine blk_drew ?_ | refine blk_alloc ?_ _)); refine blk_far ?_ NB211_216.out _; (with_reducible repeat (first | refine blk_drewN ?_ _ | refine blk_drew ?_ | refine blk_alloc ?_ _)); exact BK211.out⟩, ⟨by (with_reducible repeat (first | refine blk_drewN ?_ _ | refine blk_drew ?_ | refine blk_alloc ?_ _)); refine blk_put (cs := #[.int .i64 t212, .int .u64 t213, .string (⟨#[]⟩ : ByteArray)]) ?_ 2 _ rfl; (with_reducible repeat (first | refine blk_drewN ?_ _ | refine blk_drew ?_ | refine blk_alloc ?_ _)); refine blk_put (cs := #[.int .i64 t212, .int .u64 0, .string (⟨#[]⟩ : ByteArray)]) ?_ 1 _ rfl; (with_reducible repeat (first | refine blk_drewN ?_ _ | refine blk_drew ?_ | refine blk_alloc ?_ _)); refine blk_put (cs := #[.int .i64 0, .int .u64 0, .string (⟨#[]⟩ : ByteArray)]) ?_ 0 _ rfl; (with_reducible repeat (first | refine blk_drewN ?_ _ | refine blk_drew ?_ | refine blk_alloc ?_ _)); exact BK216.out⟩, ⟨by repeat (first | (with_reducible first | exact HB.out | apply below_alloc | apply pw_below_drewN | apply below_drew1 | refine below_set ?_ GE197.out | refine below_set ?_ GE202.out | refine below_set ?_ GE211.out | refine below_set ?_ GE216.out) | exact HB.out)⟩⟩
                    ·rw [if_neg c72] at H
                     have c72b0 : (t215 == 0) = false := beq_eq_false_iff_ne.mpr c72
                     have c72b1 : (t215 != 0) = true := bne_iff_ne.mpr c72
                     have H' := Aside0.mk H
                     clear H
                     go_wp2
                     go_meet
                     case rel => exact ⟨_, (true), (by first | rfl | (simp; done) | (simp [*]; done)), H', ⟨by have := HJ5.out; have := HJ13.out; have := HK3.out; have := HJ42.out; first | omega | exact Nat.le_refl _⟩, ⟨by (with_reducible repeat (first | refine blk_drewN ?_ _ | refine blk_drew ?_ | refine blk_alloc ?_ _)); refine blk_far ?_ NB197_216.out _; (with_reducible repeat (first | refine blk_drewN ?_ _ | refine blk_drew ?_ | refine blk_alloc ?_ _)); refine blk_far ?_ NB197_216.out _; (with_reducible repeat (first | refine blk_drewN ?_ _ | refine blk_drew ?_ | refine blk_alloc ?_ _)); refine blk_far ?_ NB197_216.out _; (with_reducible repeat (first | refine blk_drewN ?_ _ | refine blk_drew ?_ | refine blk_alloc ?_ _)); exact BK197.out⟩, ⟨by (with_reducible repeat (first | refine blk_drewN ?_ _ | refine blk_drew ?_ | refine blk_alloc ?_ _)); refine blk_far ?_ NB202_216.out _; (with_reducible repeat (first | refine blk_drewN ?_ _ | refine blk_drew ?_ | refine blk_alloc ?_ _)); refine blk_far ?_ NB202_216.out _; (with_reducible repeat (first | refine blk_drewN ?_ _ | refine blk_drew ?_ | refine blk_alloc ?_ _)); refine blk_far ?_ NB202_216.out _; (with_reducible repeat (first | refine blk_drewN ?_ _ | refine blk_drew ?_ | refine blk_alloc ?_ _)); exact BK202.out⟩, ⟨by (with_reducible repeat (first | refine blk_drewN ?_ _ | refine blk_drew ?_ | refine blk_alloc ?_ _)); refine blk_far ?_ NB211_216.out _; (with_reducible repeat (first | refine blk_drewN ?_ _ | refine blk_drew ?_ | refine blk_alloc ?_ _)); refine blk_far ?_ NB211_216.out _; (with_reducible repeat (first | refine blk_drewN ?_ _ | refine blk_drew ?_ | refine blk_alloc ?_ _)); refine blk_far ?_ NB211_216.out _; (with_reducible repeat (first | refine blk_drewN ?_ _ | refine blk_drew ?_ | refine blk_alloc ?_ _)); exact BK211.out⟩, ⟨by (with_reducible repeat (first | refine blk_drewN ?_ _ | refine blk_drew ?_ | refine blk_alloc ?_ _)); refine blk_put (cs := #[.int .i64 t212, .int .u64 t213, .string (⟨#[]⟩ : ByteArray)]) ?_ 2 _ rfl; (with_reducible repeat (first | refine blk_drewN ?_ _ | refine blk_drew ?_ | refine blk_alloc ?_ _)); refine blk_put (cs := #[.int .i64 t212, .int .u64 0, .string (⟨#[]⟩ : ByteArray)]) ?_ 1 _ rfl; (with_reducible repeat (first | refine blk_drewN ?_ _ | refine blk_drew ?_ | refine blk_alloc ?_ _)); refine blk_put (cs := #[.int .i64 0, .int .u64 0, .string (⟨#[]⟩ : ByteArray)]) ?_ 0 _ rfl; (with_reducible repeat (first | refine blk_drewN ?_ _ | refine blk_drew ?_ | refine blk_alloc ?_ _)); exact BK216.out⟩, ⟨by repeat (first | (with_reducible first | exact HB.out | apply below_alloc | apply pw_below_drewN | apply below_drew1 | refine below_set ?_ GE197.out | refine below_set ?_ GE202.out | refine below_set ?_ GE211.out | refine below_set ?_ GE216.out) | exact HB.out)⟩⟩
                   ·rw [if_neg c71] at H
                    have c71b0 : (t210 == 0) = false := beq_eq_false_iff_ne.mpr c71
                    have c71b1 : (t210 != 0) = true := bne_iff_ne.mpr c71
                    (first | rw [c71b0] | (simp only [i64_w, i32_w]; rw [c71b0]) | skip)
                    have H' := Aside0.mk H
                    clear H
                    go_wp2
                    go_meet
                    case rel => exact ⟨_, (true), (by first | rfl | (simp; done) | (simp [*]; done)), H', ⟨by have := HJ5.out; have := HJ13.out; have := HK3.out; have := HJ42.out; first | omega | exact Nat.le_refl _⟩, ⟨by (with_reducible repeat (first | refine blk_drewN ?_ _ | refine blk_drew ?_ | refine blk_alloc ?_ _)); refine blk_far ?_ NB197_216.out _; (with_reducible repeat (first | refine blk_drewN ?_ _ | refine blk_drew ?_ | refine blk_alloc ?_ _)); refine blk_far ?_ NB197_216.out _; (with_reducible repeat (first | refine blk_drewN ?_ _ | refine blk_drew ?_ | refine blk_alloc ?_ _)); refine blk_far ?_ NB197_216.out _; (with_reducible repeat (first | refine blk_drewN ?_ _ | refine blk_drew ?_ | refine blk_alloc ?_ _)); exact BK197.out⟩, ⟨by (with_reducible repeat (first | refine blk_drewN ?_ _ | refine blk_drew ?_ | refine blk_alloc ?_ _)); refine blk_far ?_ NB202_216.out _; (with_reducible repeat (first | refine blk_drewN ?_ _ | refine blk_drew ?_ | refine blk_alloc ?_ _)); refine blk_far ?_ NB202_216.out _; (with_reducible repeat (first | refine blk_drewN ?_ _ | refine blk_drew ?_ | refine blk_alloc ?_ _)); refine blk_far ?_ NB202_216.out _; (with_reducible repeat (first | refine blk_drewN ?_ _ | refine blk_drew ?_ | refine blk_alloc ?_ _)); exact BK202.out⟩, ⟨by (with_reducible repeat (first | refine blk_drewN ?_ _ | refine blk_drew ?_ | refine blk_alloc ?_ _)); refine blk_far ?_ NB211_216.out _; (with_reducible repeat (first | refine blk_drewN ?_ _ | refine blk_drew ?_ | refine blk_alloc ?_ _)); refine blk_far ?_ NB211_216.out _; (with_reducible repeat (first | refine blk_drewN ?_ _ | refine blk_drew ?_ | refine blk_alloc ?_ _)); refine blk_far ?_ NB211_216.out _; (with_reducible repeat (first | refine blk_drewN ?_ _ | refine blk_drew ?_ | refine blk_alloc ?_ _)); exact BK211.out⟩, ⟨by (with_reducible repeat (first | refine blk_drewN ?_ _ | refine blk_drew ?_ | refine blk_alloc ?_ _)); refine blk_put (cs := #[.int .i64 t212, .int .u64 t213, .string (⟨#[]⟩ : ByteArray)]) ?_ 2 _ rfl; (with_reducible repeat (first | refine blk_drewN ?_ _ | refine blk_drew ?_ | refine blk_alloc ?_ _)); refine blk_put (cs := #[.int .i64 t212, .int .u64 0, .string (⟨#[]⟩ : ByteArray)]) ?_ 1 _ rfl; (with_reducible repeat (first | refine blk_drewN ?_ _ | refine blk_drew ?_ | refine blk_alloc ?_ _)); refine blk_put (cs := #[.int .i64 0, .int .u64 0, .string (⟨#[]⟩ : ByteArray)]) ?_ 0 _ rfl; (with_reducible repeat (first | refine blk_drewN ?_ _ | refine blk_drew ?_ | refine blk_alloc ?_ _)); exact BK216.out⟩, ⟨by repeat (first | (with_reducible first | exact HB.out | apply below_alloc | apply pw_below_drewN | apply below_drew1 | refine below_set ?_ GE197.out | refine below_set ?_ GE202.out | refine below_set ?_ GE211.out | refine below_set ?_ GE216.out) | exact HB.out)⟩⟩
                  case rest => as_aux_lemma =>
                   clear HC55
                   try clear c1
                   try clear c2
                   try clear p2
                   try clear c3
                   try clear p3
                   try clear q3
                   try clear hx3
                   try clear c4
                   try clear p4
                   try clear q4
                   try clear hx4
                   try clear qi4
                   try clear c5
                   try clear hcv5
                   try clear c6
                   try clear p6
                   try clear hcv6
                   try clear c7
                   try clear c8
                   try clear c9
                   try clear c9b0
                   try clear c10
                   try clear c10b0
                   try clear c11
                   try clear c20
                   try clear c22
                   try clear c22b0
                   try clear c22b1
                   try clear c23
                   try clear c23b0
                   try clear c23b1
                   try clear c24
                   try clear c24b0
                   try clear c24b1
                   try clear c25
                   try clear c27
                   try clear c30
                   try clear c31
                   try clear c31b0
                   try clear c31b1
                   try clear c32
                   try clear c32b0
                   try clear c32b1
                   try clear c35
                   try clear c35b0
                   try clear c36
                   try clear c36b0
                   try clear c37
                   try clear c37b0
                   try clear p38
                   try clear q38
                   try clear hx38
                   try clear hf38
                   try clear c41
                   try clear c41b0
                   try clear c41b1
                   try clear p42
                   try clear q42
                   try clear hx42
                   try clear qi42
                   try clear c44
                   try clear c46
                   try clear c46b0
                   try clear c46b1
                   try clear c47
                   try clear c47b0
                   try clear c47b1
                   try clear c48
                   try clear c50
                   try clear c50b0
                   try clear c50b1
                   try clear c50b2
                   try clear c51
                   try clear c51b0
                   try clear c51b1
                   try clear c51b2
                   try clear c53
                   try clear c53b0
                   try clear c53b1
                   try clear c53b2
                   try clear hcv56
                   try clear c59
                   try clear c60
                   try clear hcv62
                   try clear c63
                   try clear p64
                   try clear c67
                   try clear c68
                   try clear c69
                   try clear c71
                   try clear c71b0
                   try clear c71b1
                   try clear c72
                   try clear c72b0
                   try clear c72b1
                   try clear c73
                   try clear c73b0
                   try clear c74
                   try clear c75
                   try clear c76
                   try clear c78
                   try clear c79
                   try clear c80
                   try clear c82
                   try clear c83
                   try clear hcz17_0
                   try clear hcz17_1
                   try clear hcz17_2
                   try clear hcz21_0
                   try clear hcz21_1
                   try clear hcz21_2
                   try clear hcz26_0
                   try clear hcz26_1
                   try clear hcz26_2
                   try clear hcz28_0
                   try clear hcz28_1
                   try clear hcz28_2
                   try clear hcz29_0
                   try clear hcz29_1
                   try clear hcz29_2
                   try clear hcz45_0
                   try clear hcz45_1
                   try clear hcz45_2
                   try clear hcz49_0
                   try clear hcz49_1
                   try clear hcz49_2
                   try clear hcz61_0
                   try clear hcz61_1
                   try clear hcz61_2
                   try clear hcz64_0
                   try clear hcz64_1
                   try clear hcz64_2
                   try clear hcz70_0
                   try clear hcz70_1
                   try clear hcz70_2
                   try clear hcz77_0
                   try clear hcz77_1
                   try clear hcz77_2
                   try clear hcz81_0
                   try clear hcz81_1
                   try clear hcz81_2
                   try clear hcz84_0
                   try clear hcz84_1
                   try clear hcz84_2
                   try clear hfz17_0
                   try clear hfz17_1
                   try clear hfz17_2
                   try clear hfz21_0
                   try clear hfz21_1
                   try clear hfz21_2
                   try clear hfz26_0
                   try clear hfz26_1
                   try clear hfz26_2
                   try clear hfz28_0
                   try clear hfz28_1
                   try clear hfz28_2
                   try clear hfz29_0
                   try clear hfz29_1
                   try clear hfz29_2
                   try clear hfz45_0
                   try clear hfz45_1
                   try clear hfz45_2
                   try clear hfz49_0
                   try clear hfz49_1
                   try clear hfz49_2
                   try clear hfz61_0
                   try clear hfz61_1
                   try clear hfz61_2
                   try clear hfz64_0
                   try clear hfz64_1
                   try clear hfz64_2
                   try clear hfz70_0
                   try clear hfz70_1
                   try clear hfz70_2
                   try clear hfz77_0
                   try clear hfz77_1
                   try clear hfz77_2
                   try clear hfz81_0
                   try clear hfz81_1
                   try clear hfz81_2
                   try clear hfz84_0
                   try clear hfz84_1
                   try clear hfz84_2
                   try clear hx38_0
                   try clear p2
                   try clear p3
                   try clear p38
                   try clear p4
                   try clear p42
                   try clear p6
                   try clear q3
                   try clear q38
                   try clear q4
                   try clear q42
                   obtain ⟨kq, x126_54, rfl, HA, HJ54, BK197, BK202, BK211, BK216, HB⟩ := hcut
                   cases kq with
                   | zero => exact absurd HA.out (by simp [stratumlaw06_ConvDigits.j4])
                   | succ kj54 =>
                    have H := HA.out
                    clear HA
                    simp only [stratumlaw06_ConvDigits.j4] at H
                    by_cases c85 : x126_54 = true
                    ·subst c85
                     have H1 : (some false) = some r := by rw [if_pos rfl] at H; exact H
                     clear H
                     have H := H1
                     clear H1
                     obtain rfl := Option.some.inj H
                     go_wp2
                     go_ret
                     exact ⟨by first | rfl | (simp [errW_none, errW_some] <;> rfl) | (simp [*, errW_none, errW_some] <;> rfl), by repeat (first | (with_reducible first | exact HB.out | apply below_alloc | apply pw_below_drewN | apply below_drew1 | refine below_set ?_ GE197.out | refine below_set ?_ GE202.out | refine below_set ?_ GE211.out | refine below_set ?_ GE216.out) | exact HB.out)⟩
                    ·replace c85 := Bool.eq_false_iff.mpr c85
                     subst c85
                     have H1 : (stratumlaw06_ConvDigits.l1 kj54 a2 a3 false 0 t198 t199 t200) = some r := by rw [if_neg (show ¬ (false = true) by decide)] at H; exact H
                     clear H
                     have H := H1
                     clear H1
                     have H' := Aside0.mk H
                     clear H
                     go_wp2
                     go_loopg [20, 21] kj54 (fun kq v20 v21 w' => ∃ (x20_6 : Bool) (x21_6 : Int), v20 = .bool x20_6 ∧ v21 = .int .i64 x21_6 ∧ Aside0 (stratumlaw06_ConvDigits.l1 kq a2 a3 x20_6 x21_6 t198 t199 t200 = some r) ∧ Aside0 (kq ≤ kj54) ∧ Aside0 (w'.heap[gb197]? = some (.cells #[.int .i64 t193, .int .u64 t194, .string t195] 27 (0, 0))) ∧ Aside0 (w'.heap[gb202]? = some (.cells #[.int .i64 t198, .int .u64 t199, .string t200] 27 (0, 0))) ∧ Aside0 (w'.heap[gb211]? = some (.cells #[.int .i64 t207, .int .u64 t208, .string t209] 27 (0, 0))) ∧ Aside0 (w'.heap[gb216]? = some (.cells #[.int .i64 t212, .int .u64 t213, .string t214] 27 (0, 0))) ∧ Aside0 (Below w.heap.size w w'))
                     case atStart => exact ⟨(false), (0), (by first | rfl | (simp; done) | (simp [*]; done)), (by first | rfl | (simp; done) | (simp [*]; done)), H', ⟨Nat.le_refl _⟩, ⟨by (with_reducible repeat (first | refine blk_drewN ?_ _ | refine blk_drew ?_ | refine blk_alloc ?_ _)); exact BK197.out⟩, ⟨by (with_reducible repeat (first | refine blk_drewN ?_ _ | refine blk_drew ?_ | refine blk_alloc ?_ _)); exact BK202.out⟩, ⟨by (with_reducible repeat (first | refine blk_drewN ?_ _ | refine blk_drew ?_ | refine blk_alloc ?_ _)); exact BK211.out⟩, ⟨by (with_reducible repeat (first | refine blk_drewN ?_ _ | refine blk_drew ?_ | refine blk_alloc ?_ _)); exact BK216.out⟩, ⟨by repeat (first | (with_reducible first | exact HB.out | apply below_alloc | apply pw_below_drewN | apply below_drew1 | refine below_set ?_ GE197.out | refine below_set ?_ GE202.out | refine below_set ?_ GE211.out | refine below_set ?_ GE216.out) | exact HB.out)⟩⟩
                     case round =>
                      clear H'
                      try clear c1
                      try clear c2
                      try clear p2
                      try clear c3
                      try clear p3
                      try clear q3
                      try clear hx3
                      try clear c4
                      try clear p4
                      try clear q4
                      try clear hx4
                      try clear qi4
                      try clear c5
                      try clear hcv5
                      try clear c6
                      try clear p6
                      try clear hcv6
                      try clear c7
                      try clear c8
                      try clear c9
                      try clear c9b0
                      try clear c10
                      try clear c10b0
                      try clear c11
                      try clear c20
                      try clear c22
                      try clear c22b0
                      try clear c22b1
                      try clear c23
                      try clear c23b0
                      try clear c23b1
                      try clear c24
                      try clear c24b0
                      try clear c24b1
                      try clear c25
                      try clear c27
                      try clear c30
                      try clear c31
                      try clear c31b0
                      try clear c31b1
                      try clear c32
                      try clear c32b0
                      try clear c32b1
                      try clear c35
                      try clear c35b0
                      try clear c36
                      try clear c36b0
                      try clear c37
                      try clear c37b0
                      try clear p38
                      try clear q38
                      try clear hx38
                      try clear hf38
                      try clear c41
                      try clear c41b0
                      try clear c41b1
                      try clear p42
                      try clear q42
                      try clear hx42
                      try clear qi42
                      try clear c44
                      try clear c46
                      try clear c46b0
                      try clear c46b1
                      try clear c47
                      try clear c47b0
                      try clear c47b1
                      try clear c48
                      try clear c50
                      try clear c50b0
                      try clear c50b1
                      try clear c50b2
                      try clear c51
                      try clear c51b0
                      try clear c51b1
                      try clear c51b2
                      try clear c53
                      try clear c53b0
                      try clear c53b1
                      try clear c53b2
                      try clear hcv56
                      try clear c59
                      try clear c60
                      try clear hcv62
                      try clear c63
                      try clear p64
                      try clear c67
                      try clear c68
                      try clear c69
                      try clear c71
                      try clear c71b0
                      try clear c71b1
                      try clear c72
                      try clear c72b0
                      try clear c72b1
                      try clear c73
                      try clear c73b0
                      try clear c74
                      try clear c75
                      try clear c76
                      try clear c78
                      try clear c79
                      try clear c80
                      try clear c82
                      try clear c83
                      try clear c85
                      try clear hcz17_0
                      try clear hcz17_1
                      try clear hcz17_2
                      try clear hcz21_0
                      try clear hcz21_1
                      try clear hcz21_2
                      try clear hcz26_0
                      try clear hcz26_1
                      try clear hcz26_2
                      try clear hcz28_0
                      try clear hcz28_1
                      try clear hcz28_2
                      try clear hcz29_0
                      try clear hcz29_1
                      try clear hcz29_2
                      try clear hcz45_0
                      try clear hcz45_1
                      try clear hcz45_2
                      try clear hcz49_0
                      try clear hcz49_1
                      try clear hcz49_2
                      try clear hcz61_0
                      try clear hcz61_1
                      try clear hcz61_2
                      try clear hcz64_0
                      try clear hcz64_1
                      try clear hcz64_2
                      try clear hcz70_0
                      try clear hcz70_1
                      try clear hcz70_2
                      try clear hcz77_0
                      try clear hcz77_1
                      try clear hcz77_2
                      try clear hcz81_0
                      try clear hcz81_1
                      try clear hcz81_2
                      try clear hcz84_0
                      try clear hcz84_1
                      try clear hcz84_2
                      try clear hfz17_0
                      try clear hfz17_1
                      try clear hfz17_2
                      try clear hfz21_0
                      try clear hfz21_1
                      try clear hfz21_2
                      try clear hfz26_0
                      try clear hfz26_1
                      try clear hfz26_2
                      try clear hfz28_0
                      try clear hfz28_1
                      try clear hfz28_2
                      try clear hfz29_0
                      try clear hfz29_1
                      try clear hfz29_2
                      try clear hfz45_0
                      try clear hfz45_1
                      try clear hfz45_2
                      try clear hfz49_0
                      try clear hfz49_1
                      try clear hfz49_2
                      try clear hfz61_0
                      try clear hfz61_1
                      try clear hfz61_2
                      try clear hfz64_0
                      try clear hfz64_1
                      try clear hfz64_2
                      try clear hfz70_0
                      try clear hfz70_1
                      try clear hfz70_2
                      try clear hfz77_0
                      try clear hfz77_1
                      try clear hfz77_2
                      try clear hfz81_0
                      try clear hfz81_1
                      try clear hfz81_2
                      try clear hfz84_0
                      try clear hfz84_1
                      try clear hfz84_2
                      try clear hx38_0
                      try clear p2
                      try clear p3
                      try clear p38
                      try clear p4
                      try clear p42
                      try clear p6
                      try clear p64
                      try clear q3
                      try clear q38
                      try clear q4
                      try clear q42
                      obtain ⟨x20_6, x21_6, rfl, rfl, HA, HK6, BK197, BK202, BK211, BK216, HB⟩ := hrel
                      cases gk with
                      | zero => exact absurd HA.out (by simp [stratumlaw06_ConvDigits.l1])
                      | succ k6 =>
                       have H := HA.out
                       clear HA
                       simp only [stratumlaw06_ConvDigits.l1] at H
                       by_cases c86 : x21_6 < (a2.size : Int)
                       ·rw [if_pos c86] at H
                        have c86b0 : decide (x21_6 < (a2.size : Int)) = true := decide_eq_true c86
                        clear c86
                        by_cases c87 : x20_6 = true
                        ·subst c87
                         have H1 : (stratumlaw06_ConvDigits.l1 k6 a2 a3 true (wrap64 (x21_6 + 1)) t198 t199 t200) = some r := by rw [if_pos rfl] at H; exact H
                         clear H
                         have H := H1
                         clear H1
                         have H' := Aside0.mk H
                         clear H
                         go_wp2
                         go_roundg k6
                         case measure => have := HJ5.out; have := HJ13.out; have := HK3.out; have := HJ42.out; have := HJ54.out; have := HK6.out; omega
                         case rel => exact ⟨(true), (wrap64 (x21_6 + 1)), (by first | rfl | (simp; done) | (simp [*]; done)), (by first | rfl | (simp; done) | (simp [*]; done)), H', ⟨by have := HJ5.out; have := HJ13.out; have := HK3.out; have := HJ42.out; have := HJ54.out; have := HK6.out; omega⟩, ⟨by (with_reducible repeat (first | refine blk_drewN ?_ _ | refine blk_drew ?_ | refine blk_alloc ?_ _)); exact BK197.out⟩, ⟨by (with_reducible repeat (first | refine blk_drewN ?_ _ | refine blk_drew ?_ | refine blk_alloc ?_ _)); exact BK202.out⟩, ⟨by (with_reducible repeat (first | refine blk_drewN ?_ _ | refine blk_drew ?_ | refine blk_alloc ?_ _)); exact BK211.out⟩, ⟨by (with_reducible repeat (first | refine blk_drewN ?_ _ | refine blk_drew ?_ | refine blk_alloc ?_ _)); exact BK216.out⟩, ⟨by repeat (first | (with_reducible first | exact HB.out | apply below_alloc | apply pw_below_drewN | apply below_drew1 | refine below_set ?_ GE197.out | refine below_set ?_ GE202.out | refine below_set ?_ GE211.out | refine below_set ?_ GE216.out) | exact HB.out)⟩⟩
                        ·replace c87 := Bool.eq_false_iff.mpr c87
                         subst c87
                         have H1 : (if 0 ≤ x21_6 then (if (bt a2 x21_6) > 57 then (stratumlaw06_ConvDigits.l1 k6 a2 a3 true (wrap64 (x21_6 + 1)) t198 t199 t200) else (if (bt a2 x21_6) < 48 then (stratumlaw06_ConvDigits.l1 k6 a2 a3 ((bt a2 x21_6) != 45) (wrap64 (x21_6 + 1)) t198 t199 t200) else (stratumlaw06_ConvDigits.l1 k6 a2 a3 false (wrap64 (x21_6 + 1)) t198 t199 t200))) else (none)) = some r := by rw [if_neg (show ¬ (false = true) by decide)] at H; exact H
                         clear H
                         have H := H1
                         clear H1
                         by_cases c88 : 0 ≤ x21_6
                         ·rw [if_pos c88] at H
                          have c88b0 : decide (0 ≤ x21_6) = true := decide_eq_true c88
                          clear c88
                          by_cases c90 : (bt a2 x21_6) > 57
                          ·rw [if_pos c90] at H
                           have c90b0 : decide (57 < (bt a2 x21_6)) = true := decide_eq_true c90
                           clear c90
                           have H' := Aside0.mk H
                           clear H
                           have p89 : 0 ≤ (x21_6 : Int) := of_decide_eq_true (by first | (with_reducible assumption) | assumption)
                           have q89 : x21_6 < (a2.size : Int) := of_decide_eq_true (by first | (with_reducible assumption) | assumption)
                           have hx89 := bt_at a2 x21_6
                           replace p89 := eq_true p89
                           replace q89 := eq_true q89
                           go_wp2
                           go_roundg k6
                           case measure => have := HJ5.out; have := HJ13.out; have := HK3.out; have := HJ42.out; have := HJ54.out; have := HK6.out; omega
                           case rel => exact ⟨(true), (wrap64 (x21_6 + 1)), (by first | rfl | (simp; done) | (simp [*]; done)), (by first | rfl | (simp; done) | (simp [*]; done)), H', ⟨by have := HJ5.out; have := HJ13.out; have := HK3.out; have := HJ42.out; have := HJ54.out; have := HK6.out; omega⟩, ⟨by (with_reducible repeat (first | refine blk_drewN ?_ _ | refine blk_drew ?_ | refine blk_alloc ?_ _)); exact BK197.out⟩, ⟨by (with_reducible repeat (first | refine blk_drewN ?_ _ | refine blk_drew ?_ | refine blk_alloc ?_ _)); exact BK202.out⟩, ⟨by (with_reducible repeat (first | refine blk_drewN ?_ _ | refine blk_drew ?_ | refine blk_alloc ?_ _)); exact BK211.out⟩, ⟨by (with_reducible repeat (first | refine blk_drewN ?_ _ | refine blk_drew ?_ | refine blk_alloc ?_ _)); exact BK216.out⟩, ⟨by repeat (first | (with_reducible first | exact HB.out | apply below_alloc | apply pw_below_drewN | apply below_drew1 | refine below_set ?_ GE197.out | refine below_set ?_ GE202.out | refine below_set ?_ GE211.out | refine below_set ?_ GE216.out) | exact HB.out)⟩⟩
                          ·rw [if_neg c90] at H
                           have c90b0 : decide (57 < (bt a2 x21_6)) = false := decide_eq_false c90
                           clear c90
                           by_cases c92 : (bt a2 x21_6) < 48
                           ·rw [if_pos c92] at H
                            have c92b0 : decide ((bt a2 x21_6) < 48) = true := decide_eq_true c92
                            clear c92
                            have H' := Aside0.mk H
                            clear H
                            have p89 : 0 ≤ (x21_6 : Int) := of_decide_eq_true (by first | (with_reducible assumption) | assumption)
                            have q89 : x21_6 < (a2.size : Int) := of_decide_eq_true (by first | (with_reducible assumption) | assumption)
                            have hx89 := bt_at a2 x21_6
                            replace p89 := eq_true p89
                            replace q89 := eq_true q89
                            have p91 : 0 ≤ (x21_6 : Int) := of_decide_eq_true (by first | (with_reducible assumption) | assumption)
                            have q91 : x21_6 < (a2.size : Int) := of_decide_eq_true (by first | (with_reducible assumption) | assumption)
                            have hx91 := bt_at a2 x21_6
                            replace p91 := eq_true p91
                            replace q91 := eq_true q91
                            have p93 : 0 ≤ (x21_6 : Int) := of_decide_eq_true (by first | (with_reducible assumption) | assumption)
                            have q93 : x21_6 < (a2.size : Int) := of_decide_eq_true (by first | (with_reducible assumption) | assumption)
                            have hx93 := bt_at a2 x21_6
                            replace p93 := eq_true p93
                            replace q93 := eq_true q93
                            go_wp2
                            go_roundg k6
                            case measure => have := HJ5.out; have := HJ13.out; have := HK3.out; have := HJ42.out; have := HJ54.out; have := HK6.out; omega
                            case rel => exact ⟨(((bt a2 x21_6) != 45)), (wrap64 (x21_6 + 1)), (by first | rfl | (simp; done) | (simp [*]; done)), (by first | rfl | (simp; done) | (simp [*]; done)), H', ⟨by have := HJ5.out; have := HJ13.out; have := HK3.out; have := HJ42.out; have := HJ54.out; have := HK6.out; omega⟩, ⟨by (with_reducible repeat (first | refine blk_drewN ?_ _ | refine blk_drew ?_ | refine blk_alloc ?_ _)); exact BK197.out⟩, ⟨by (with_reducible repeat (first | refine blk_drewN ?_ _ | refine blk_drew ?_ | refine blk_alloc ?_ _)); exact BK202.out⟩, ⟨by (with_reducible repeat (first | refine blk_drewN ?_ _ | refine blk_drew ?_ | refine blk_alloc ?_ _)); exact BK211.out⟩, ⟨by (with_reducible repeat (first | refine blk_drewN ?_ _ | refine blk_drew ?_ | refine blk_alloc ?_ _)); exact BK216.out⟩, ⟨by repeat (first | (with_reducible first | exact HB.out | apply below_alloc | apply pw_below_drewN | apply below_drew1 | refine below_set ?_ GE197.out | refine below_set ?_ GE202.out | refine below_set ?_ GE211.out | refine below_set ?_ GE216.out) | exact HB.out)⟩⟩
                           ·rw [if_neg c92] at H
                            have c92b0 : decide ((bt a2 x21_6) < 48) = false := decide_eq_false c92
                            clear c92
                            have H' := Aside0.mk H
                            clear H
                            have p89 : 0 ≤ (x21_6 : Int) := of_decide_eq_true (by first | (with_reducible assumption) | assumption)
                            have q89 : x21_6 < (a2.size : Int) := of_decide_eq_true (by first | (with_reducible assumption) | assumption)
                            have hx89 := bt_at a2 x21_6
                            replace p89 := eq_true p89
                            replace q89 := eq_true q89
                            have p91 : 0 ≤ (x21_6 : Int) := of_decide_eq_true (by first | (with_reducible assumption) | assumption)
                            have q91 : x21_6 < (a2.size : Int) := of_decide_eq_true (by first | (with_reducible assumption) | assumption)
                            have hx91 := bt_at a2 x21_6
                            replace p91 := eq_true p91
                            replace q91 := eq_true q91
                            go_wp2
                            go_roundg k6
                            case measure => have := HJ5.out; have := HJ13.out; have := HK3.out; have := HJ42.out; have := HJ54.out; have := HK6.out; omega
                            case rel => exact ⟨(false), (wrap64 (x21_6 + 1)), (by first | rfl | (simp; done) | (simp [*]; done)), (by first | rfl | (simp; done) | (simp [*]; done)), H', ⟨by have := HJ5.out; have := HJ13.out; have := HK3.out; have := HJ42.out; have := HJ54.out; have := HK6.out; omega⟩, ⟨by (with_reducible repeat (first | refine blk_drewN ?_ _ | refine blk_drew ?_ | refine blk_alloc ?_ _)); exact BK197.out⟩, ⟨by (with_reducible repeat (first | refine blk_drewN ?_ _ | refine blk_drew ?_ | refine blk_alloc ?_ _)); exact BK202.out⟩, ⟨by (with_reducible repeat (first | refine blk_drewN ?_ _ | refine blk_drew ?_ | refine blk_alloc ?_ _)); exact BK211.out⟩, ⟨by (with_reducible repeat (first | refine blk_drewN ?_ _ | refine blk_drew ?_ | refine blk_alloc ?_ _)); exact BK216.out⟩, ⟨by repeat (first | (with_reducible first | exact HB.out | apply below_alloc | apply pw_below_drewN | apply below_drew1 | refine below_set ?_ GE197.out | refine below_set ?_ GE202.out | refine below_set ?_ GE211.out | refine below_set ?_ GE216.out) | exact HB.out)⟩⟩
                         ·rw [if_neg c88] at H
                          exact absurd H (by simp)
                       ·rw [if_neg c86] at H
                        have c86b0 : decide (x21_6 < (a2.size : Int)) = false := decide_eq_false c86
                        clear c86
                        have HC94 := Aside0.mk H
                        clear H
                        go_upto_region 27 with (fail)
                        go_cut [164] (fun v164 wc => ∃ (kq : Nat) (x164_93 : Bool), v164 = .bool x164_93 ∧ Aside0 (stratumlaw06_ConvDigits.j6 kq a2 a3 x164_93 t198 t199 t200 = some r) ∧ Aside0 (kq ≤ k6) ∧ Aside0 (wc.heap[gb197]? = some (.cells #[.int .i64 t193, .int .u64 t194, .string t195] 27 (0, 0))) ∧ Aside0 (wc.heap[gb202]? = some (.cells #[.int .i64 t198, .int .u64 t199, .string t200] 27 (0, 0))) ∧ Aside0 (wc.heap[gb211]? = some (.cells #[.int .i64 t207, .int .u64 t208, .string t209] 27 (0, 0))) ∧ Aside0 (wc.heap[gb216]? = some (.cells #[.int .i64 t212, .int .u64 t213, .string t214] 27 (0, 0))) ∧ Aside0 (Below w.heap.size w wc))
                        case first => as_aux_lemma =>
                         have H := HC94.out
                         clear HC94
                         by_cases c95 : x20_6 = true
                         ·subst c95
                          have H1 : (if a3 < 0 then (stratumlaw06_ConvDigits.j6 k6 a2 a3 true t198 t199 t200) else (stratumlaw06_ConvDigits.j6 k6 a2 a3 (decide (a3 > (t200.size : Int))) t198 t199 t200)) = some r := by rw [if_pos rfl] at H; exact H
                          clear H
                          have H := H1
                          clear H1
                          by_cases c96 : a3 < 0
                          ·rw [if_pos c96] at H
                           have c96b0 : decide (a3 < 0) = true := decide_eq_true c96
                           clear c96
                           (first | rw [c96b0] | (simp only [i64_w, i32_w]; rw [c96b0]) | skip)
                           have H' := Aside0.mk H
                           clear H
                           go_wp2
                           go_meet
                           case rel => exact ⟨_, (true), (by first | rfl | (simp; done) | (simp [*]; done)), H', ⟨by have := HJ5.out; have := HJ13.out; have := HK3.out; have := HJ42.out; have := HJ54.out; have := HK6.out; first | omega | exact Nat.le_refl _⟩, ⟨by (with_reducible repeat (first | refine blk_drewN ?_ _ | refine blk_drew ?_ | refine blk_alloc ?_ _)); exact BK197.out⟩, ⟨by (with_reducible repeat (first | refine blk_drewN ?_ _ | refine blk_drew ?_ | refine blk_alloc ?_ _)); exact BK202.out⟩, ⟨by (with_reducible repeat (first | refine blk_drewN ?_ _ | refine blk_drew ?_ | refine blk_alloc ?_ _)); exact BK211.out⟩, ⟨by (with_reducible repeat (first | refine blk_drewN ?_ _ | refine blk_drew ?_ | refine blk_alloc ?_ _)); exact BK216.out⟩, ⟨by repeat (first | (with_reducible first | exact HB.out | apply below_alloc | apply pw_below_drewN | apply below_drew1 | refine below_set ?_ GE197.out | refine below_set ?_ GE202.out | refine below_set ?_ GE211.out | refine below_set ?_ GE216.out) | exact HB.out)⟩⟩
                          ·rw [if_neg c96] at H
                           have c96b0 : decide (a3 < 0) = false := decide_eq_false c96
                           clear c96
                           (first | rw [c96b0] | (simp only [i64_w, i32_w]; rw [c96b0]) | skip)
                           have H' := Aside0.mk H
                           clear H
                           have hnb97 := NB202_197.out
                           have hnc97 := NB197_202.out
                           have hnb98 := NB202_211.out
                           have hnc98 := NB211_202.out
                           have hnb99 := NB202_216.out
                           have hnc99 := NB216_202.out
                           have hcz100_0 : wr.cell? ⟨gb202, 0, none⟩ = some (.int .i64 t198) := (blk_cell BK202.out 0).trans rfl
                           have hcz100_1 : wr.cell? ⟨gb202, 1, none⟩ = some (.int .u64 t199) := (blk_cell BK202.out 1).trans rfl
                           have hcz100_2 : wr.cell? ⟨gb202, 2, none⟩ = some (.string t200) := (blk_cell BK202.out 2).trans rfl
                           have hfz100_0 := blk_frozen BK202.out 0
                           have hfz100_1 := blk_frozen BK202.out 1
                           have hfz100_2 := blk_frozen BK202.out 2
                           go_wp2
                           go_meet
                           case rel => exact ⟨_, (decide (a3 > (t200.size : Int))), (by first | rfl | (simp; done) | (simp [*]; done)), H', ⟨by have := HJ5.out; have := HJ13.out; have := HK3.out; have := HJ42.out; have := HJ54.out; have := HK6.out; first | omega | exact Nat.le_refl _⟩, ⟨by (with_reducible repeat (first | refine blk_drewN ?_ _ | refine blk_drew ?_ | refine blk_alloc ?_ _)); exact BK197.out⟩, ⟨by (with_reducible repeat (first | refine blk_drewN ?_ _ | refine blk_drew ?_ | refine blk_alloc ?_ _)); exact BK202.out⟩, ⟨by (with_reducible repeat (first | refine blk_drewN ?_ _ | refine blk_drew ?_ | refine blk_alloc ?_ _)); exact BK211.out⟩, ⟨by (with_reducible repeat (first | refine blk_drewN ?_ _ | refine blk_drew ?_ | refine blk_alloc ?_ _)); exact BK216.out⟩, ⟨by repeat (first | (with_reducible first | exact HB.out | apply below_alloc | apply pw_below_drewN | apply below_drew1 | refine below_set ?_ GE197.out | refine below_set ?_ GE202.out | refine below_set ?_ GE211.out | refine below_set ?_ GE216.out) | exact HB.out)⟩⟩
                         ·replace c95 := Bool.eq_false_iff.mpr c95
                          subst c95
                          have H1 : (stratumlaw06_ConvDigits.j6 k6 a2 a3 true t198 t199 t200) = some r := by rw [if_neg (show ¬ (false = true) by decide)] at H; exact H
                          clear H
                          have H := H1
                          clear H1
                          have H' := Aside0.mk H
                          clear H
                          go_wp2
                          go_meet
                          case rel => exact ⟨_, (true), (by first | rfl | (simp; done) | (simp [*]; done)), H', ⟨by have := HJ5.out; have := HJ13.out; have := HK3.out; have := HJ42.out; have := HJ54.out; have := HK6.out; first | omega | exact Nat.le_refl _⟩, ⟨by (with_reducible repeat (first | refine blk_drewN ?_ _ | refine blk_drew ?_ | refine blk_alloc ?_ _)); exact BK197.out⟩, ⟨by (with_reducible repeat (first | refine blk_drewN ?_ _ | refine blk_drew ?_ | refine blk_alloc ?_ _)); exact BK202.out⟩, ⟨by (with_reducible repeat (first | refine blk_drewN ?_ _ | refine blk_drew ?_ | refine blk_alloc ?_ _)); exact BK211.out⟩, ⟨by (with_reducible repeat (first | refine blk_drewN ?_ _ | refine blk_drew ?_ | refine blk_alloc ?_ _)); exact BK216.out⟩, ⟨by repeat (first | (with_reducible first | exact HB.out | apply below_alloc | apply pw_below_drewN | apply below_drew1 | refine below_set ?_ GE197.out | refine below_set ?_ GE202.out | refine below_set ?_ GE211.out | refine below_set ?_ GE216.out) | exact HB.out)⟩⟩
                        case rest => as_aux_lemma =>
                         clear HC94
                         try clear c1
                         try clear c2
                         try clear p2
                         try clear c3
                         try clear p3
                         try clear q3
                         try clear hx3
                         try clear c4
                         try clear p4
                         try clear q4
                         try clear hx4
                         try clear qi4
                         try clear c5
                         try clear hcv5
                         try clear c6
                         try clear p6
                         try clear hcv6
                         try clear c7
                         try clear c8
                         try clear p8
                         try clear q8
                         try clear hx8
                         try clear c9
                         try clear c9b0
                         try clear p9
                         try clear q9
                         try clear hx9
                         try clear c10
                         try clear c10b0
                         try clear c11
                         try clear c20
                         try clear c22
                         try clear c22b0
                         try clear c22b1
                         try clear c23
                         try clear c23b0
                         try clear c23b1
                         try clear c24
                         try clear c24b0
                         try clear c24b1
                         try clear c25
                         try clear c27
                         try clear c30
                         try clear c31
                         try clear c31b0
                         try clear c31b1
                         try clear c32
                         try clear c32b0
                         try clear c32b1
                         try clear c35
                         try clear c35b0
                         try clear c36
                         try clear c36b0
                         try clear c37
                         try clear c37b0
                         try clear p38
                         try clear q38
                         try clear hx38
                         try clear hf38
                         try clear c41
                         try clear c41b0
                         try clear c41b1
                         try clear p42
                         try clear q42
                         try clear hx42
                         try clear qi42
                         try clear c44
                         try clear c46
                         try clear c46b0
                         try clear c46b1
                         try clear c47
                         try clear c47b0
                         try clear c47b1
                         try clear c48
                         try clear c50
                         try clear c50b0
                         try clear c50b1
                         try clear c50b2
                         try clear c51
                         try clear c51b0
                         try clear c51b1
                         try clear c51b2
                         try clear c53
                         try clear c53b0
                         try clear c53b1
                         try clear c53b2
                         try clear hcv56
                         try clear c59
                         try clear c60
                         try clear hcv62
                         try clear c63
                         try clear p64
                         try clear c67
                         try clear c68
                         try clear c69
                         try clear c71
                         try clear c71b0
                         try clear c71b1
                         try clear c72
                         try clear c72b0
                         try clear c72b1
                         try clear c73
                         try clear c73b0
                         try clear c74
                         try clear c75
                         try clear c76
                         try clear c78
                         try clear c79
                         try clear c80
                         try clear c82
                         try clear c83
                         try clear c85
                         try clear c86
                         try clear c86b0
                         try clear c87
                         try clear c88
                         try clear c88b0
                         try clear p89
                         try clear q89
                         try clear hx89
                         try clear c90
                         try clear c90b0
                         try clear p91
                         try clear q91
                         try clear hx91
                         try clear c92
                         try clear c92b0
                         try clear p93
                         try clear q93
                         try clear hx93
                         try clear c95
                         try clear c96
                         try clear c96b0
                         try clear c97
                         try clear c98
                         try clear c99
                         try clear hcz100_0
                         try clear hcz100_1
                         try clear hcz100_2
                         try clear hcz17_0
                         try clear hcz17_1
                         try clear hcz17_2
                         try clear hcz21_0
                         try clear hcz21_1
                         try clear hcz21_2
                         try clear hcz26_0
                         try clear hcz26_1
                         try clear hcz26_2
                         try clear hcz28_0
                         try clear hcz28_1
                         try clear hcz28_2
                         try clear hcz29_0
                         try clear hcz29_1
                         try clear hcz29_2
                         try clear hcz45_0
                         try clear hcz45_1
                         try clear hcz45_2
                         try clear hcz49_0
                         try clear hcz49_1
                         try clear hcz49_2
                         try clear hcz61_0
                         try clear hcz61_1
                         try clear hcz61_2
                         try clear hcz64_0
                         try clear hcz64_1
                         try clear hcz64_2
                         try clear hcz70_0
                         try clear hcz70_1
                         try clear hcz70_2
                         try clear hcz77_0
                         try clear hcz77_1
                         try clear hcz77_2
                         try clear hcz81_0
                         try clear hcz81_1
                         try clear hcz81_2
                         try clear hcz84_0
                         try clear hcz84_1
                         try clear hcz84_2
                         try clear hfz100_0
                         try clear hfz100_1
                         try clear hfz100_2
                         try clear hfz17_0
                         try clear hfz17_1
                         try clear hfz17_2
                         try clear hfz21_0
                         try clear hfz21_1
                         try clear hfz21_2
                         try clear hfz26_0
                         try clear hfz26_1
                         try clear hfz26_2
                         try clear hfz28_0
                         try clear hfz28_1
                         try clear hfz28_2
                         try clear hfz29_0
                         try clear hfz29_1
                         try clear hfz29_2
                         try clear hfz45_0
                         try clear hfz45_1
                         try clear hfz45_2
                         try clear hfz49_0
                         try clear hfz49_1
                         try clear hfz49_2
                         try clear hfz61_0
                         try clear hfz61_1
                         try clear hfz61_2
                         try clear hfz64_0
                         try clear hfz64_1
                         try clear hfz64_2
                         try clear hfz70_0
                         try clear hfz70_1
                         try clear hfz70_2
                         try clear hfz77_0
                         try clear hfz77_1
                         try clear hfz77_2
                         try clear hfz81_0
                         try clear hfz81_1
                         try clear hfz81_2
                         try clear hfz84_0
                         try clear hfz84_1
                         try clear hfz84_2
                         try clear hx38_0
                         try clear p2
                         try clear p3
                         try clear p38
                         try clear p4
                         try clear p42
                         try clear p6
                         try clear p64
                         try clear p89
                         try clear p91
                         try clear p93
                         try clear q3
                         try clear q38
                         try clear q4
                         try clear q42
                         try clear q89
                         try clear q91
                         try clear q93
                         obtain ⟨kq, x164_93, rfl, HA, HJ93, BK197, BK202, BK211, BK216, HB⟩ := hcut
                         cases kq with
                         | zero => exact absurd HA.out (by simp [stratumlaw06_ConvDigits.j6])
                         | succ kj93 =>
                          have H := HA.out
                          clear HA
                          simp only [stratumlaw06_ConvDigits.j6] at H
                          by_cases c101 : x164_93 = true
                          ·subst c101
                           have H1 : (some true) = some r := by rw [if_pos rfl] at H; exact H
                           clear H
                           have H := H1
                           clear H1
                           obtain rfl := Option.some.inj H
                           go_wp2
                           go_ret
                           exact ⟨by first | rfl | (simp [errW_none, errW_some] <;> rfl) | (simp [*, errW_none, errW_some] <;> rfl), by repeat (first | (with_reducible first | exact HB.out | apply below_alloc | apply pw_below_drewN | apply below_drew1 | refine below_set ?_ GE197.out | refine below_set ?_ GE202.out | refine below_set ?_ GE211.out | refine below_set ?_ GE216.out) | exact HB.out)⟩
                          ·replace c101 := Bool.eq_false_iff.mpr c101
                           subst c101
                           have H1 : (if 0 ≤ a3 then (if a3 ≤ (t200.size : Int) then (if (t200.extract 0 (a3 : Int).toNat).size + a2.size ≤ 9223372036854775807 then (if ((t200.extract 0 (a3 : Int).toNat) ++ a2).size + (t200.extract (a3 : Int).toNat t200.size).size ≤ 9223372036854775807 then ((kind_Valid.f 4 0 (((t200.extract 0 (a3 : Int).toNat) ++ a2) ++ (t200.extract (a3 : Int).toNat t200.size))).bind fun t218 => ((conv_Apply.f 5 4 0 (((t200.extract 0 (a3 : Int).toNat) ++ a2) ++ (t200.extract (a3 : Int).toNat t200.size))).bind fun bt219 => ((conv_Apply.f 6 4 0 (((t200.extract 0 (a3 : Int).toNat) ++ a2) ++ (t200.extract (a3 : Int).toNat t200.size))).bind fun bt223 => (if t218 = true then (if bt219.2.2.2 = 61 then (some (bt223.2.2.2 == 61)) else (some false)) else (some true))))) else (none)) else (none)) else (none)) else (none)) = some r := by rw [if_neg (show ¬ (false = true) by decide)] at H; exact H
                           clear H
                           have H := H1
                           clear H1
                           by_cases c102 : 0 ≤ a3
                           ·rw [if_pos c102] at H
                            have c102b0 := eq_true c102
                            have c102b1 : decide (0 ≤ a3) = true := decide_eq_true c102
                            clear c102
                            by_cases c103 : a3 ≤ (t200.size : Int)
                            ·rw [if_pos c103] at H
                             have c103b0 := eq_true c103
                             have c103b1 : decide (a3 ≤ (t200.size : Int)) = true := decide_eq_true c103
                             clear c103
                             by_cases c104 : (t200.extract 0 (a3 : Int).toNat).size + a2.size ≤ 9223372036854775807
                             ·rw [if_pos c104] at H
                              have c104b0 := eq_true c104
                              have c104b1 : decide ((t200.extract 0 (a3 : Int).toNat).size + a2.size ≤ 9223372036854775807) = true := decide_eq_true c104
                              try have c104b2 : (9223372036854775807 < (t200.extract 0 (a3 : Int).toNat).size + a2.size) = False := eq_false (Nat.not_lt.2 c104)
                              (try (have c104b8 : (9223372036854775807 < a3.toNat + a2.size) = False := eq_false (by have q_ := c104; have q1_a3 : a3 ≤ (t200.size : Int) := of_decide_eq_true (by assumption); have q2_a3 : 0 ≤ a3 := of_decide_eq_true (by assumption);  simp only [ByteArray.size_append, ByteArray.size_extract] at q_; omega)))
                              have c105b0 := eq_true (of_decide_eq_true (by first | (with_reducible assumption) | assumption) : 0 ≤ a3)
                              have c106b0 := eq_true (of_decide_eq_true (by first | (with_reducible assumption) | assumption) : a3 ≤ (t200.size : Int))
                              by_cases c107 : ((t200.extract 0 (a3 : Int).toNat) ++ a2).size + (t200.extract (a3 : Int).toNat t200.size).size ≤ 9223372036854775807
                              ·rw [if_pos c107] at H
                               have c107b0 := eq_true c107
                               have c107b1 : decide (((t200.extract 0 (a3 : Int).toNat) ++ a2).size + (t200.extract (a3 : Int).toNat t200.size).size ≤ 9223372036854775807) = true := decide_eq_true c107
                               try have c107b2 : (9223372036854775807 < ((t200.extract 0 (a3 : Int).toNat) ++ a2).size + (t200.extract (a3 : Int).toNat t200.size).size) = False := eq_false (Nat.not_lt.2 c107)
                               (try (have c107b8 : (9223372036854775807 < a3.toNat + a2.size + (t200.size - a3.toNat)) = False := eq_false (by have q_ := c107; have q1_a3 : a3 ≤ (t200.size : Int) := of_decide_eq_true (by assumption); have q2_a3 : 0 ≤ a3 := of_decide_eq_true (by assumption);  simp only [ByteArray.size_append, ByteArray.size_extract] at q_; omega)))
                               replace H := Option.bind_eq_some_iff.mp H
                               obtain ⟨t218, A1080, H⟩ := H
                               replace H : ((conv_Apply.f 5 4 0 (((t200.extract 0 (a3 : Int).toNat) ++ a2) ++ (t200.extract (a3 : Int).toNat t200.size))).bind fun bt219 => ((conv_Apply.f 6 4 0 (((t200.extract 0 (a3 : Int).toNat) ++ a2) ++ (t200.extract (a3 : Int).toNat t200.size))).bind fun bt223 => (if t218 = true then (if bt219.2.2.2 = 61 then (some (bt223.2.2.2 == 61)) else (some false)) else (some true)))) = some r := H
                               have A108 := Aside0.mk A1080
                               clear A1080
                               replace H := Option.bind_eq_some_iff.mp H
                               obtain ⟨⟨t219, t220, t221, t222⟩, A1090, H⟩ := H
                               replace H : ((conv_Apply.f 6 4 0 (((t200.extract 0 (a3 : Int).toNat) ++ a2) ++ (t200.extract (a3 : Int).toNat t200.size))).bind fun bt223 => (if t218 = true then (if t222 = 61 then (some (bt223.2.2.2 == 61)) else (some false)) else (some true))) = some r := H
                               have A109 := Aside0.mk A1090
                               clear A1090
                               replace H := Option.bind_eq_some_iff.mp H
                               obtain ⟨⟨t223, t224, t225, t226⟩, A1100, H⟩ := H
                               replace H : (if t218 = true then (if t222 = 61 then (some (t226 == 61)) else (some false)) else (some true)) = some r := H
                               have A110 := Aside0.mk A1100
                               clear A1100
                               by_cases c111 : t218 = true
                               ·subst c111
                                have H1 : (if t222 = 61 then (some (t226 == 61)) else (some false)) = some r := by rw [if_pos rfl] at H; exact H
                                clear H
                                have H := H1
                                clear H1
                                by_cases c112 : t222 = 61
                                ·rw [if_pos c112] at H
                                 have c112b0 : (t222 == 61) = true := beq_iff_eq.mpr c112
                                 have c112b1 : (t222 != 61) = false := bne_eq_false_iff_eq.mpr c112
                                 clear c112
                                 obtain rfl := Option.some.inj H
                                 try go_wp2
                                 have n0_ := Aside0.mk (blk_drew BK197.out)
                                 have n1_ := Aside0.mk (blk_drew BK202.out)
                                 have n2_ := Aside0.mk (blk_drew BK211.out)
                                 have n3_ := Aside0.mk (blk_drew BK216.out)
                                 have n4_ := Aside0.mk (below_drew1 HB.out)
                                 clear BK197
                                 clear BK202
                                 clear BK211
                                 clear BK216
                                 clear HB
                                 have BK197 := n0_
                                 have BK202 := n1_
                                 have BK211 := n2_
                                 have BK216 := n3_
                                 have HB := n4_
                                 clear n0_ n1_ n2_ n3_ n4_
                                 refine start_ (n := 14) (S := fun w' => w'.cell? ⟨gb202, 0, none⟩ = some (.int .i64 t198) ∧ w'.cell? ⟨gb202, 1, none⟩ = some (.int .u64 t199) ∧ w'.cell? ⟨gb202, 2, none⟩ = some (.string t200)) (ds := []) #[false, false, false, false, false, false, false, false, false, false, false, false, false, false] (by kernel_rfl) rfl rfl ⟨(blk_cell BK202.out 0).trans rfl, (blk_cell BK202.out 1).trans rfl, (blk_cell BK202.out 2).trans rfl⟩ (fun hHeld => ?_); refine with_tabW stratumlaw06_ConvDigits.tab29 stratumlaw06_ConvDigits.bits29 (fun HT_ HW_ => ?_)
                                 generalize wc.drew = w113 at BK197 BK202 BK211 BK216 HB hHeld ⊢
                                 refine pure_ (i := 0) (N := some 165) (v := ?_) (a' := ?_) #[true, false, false, false, false, false, false, false, false, false, false, false, false, false] rfl rfl (any_of HT_.out (by kernel_rfl)) (fun _ _ _ h => h) (Or.inl ⟨by rfl, ?_⟩) ?_ ?_
                                 rotate_left
                                 ·intro w'
                                  go_simp
                                  with_reducible rfl
                                 rotate_left
                                 ·simp only [Act.put, List.setIfInBounds_toArray, List.set_cons_zero, List.set_cons_succ, i64_w, i32_w]
                                  rfl
                                 refine pure_ (i := 2) (N := some 167) (v := ?_) (a' := ?_) #[true, false, true, false, false, false, false, false, false, false, false, false, false, false] rfl rfl (any_of HT_.out (by kernel_rfl)) (fun _ _ _ h => h) (Or.inl ⟨by rfl, ?_⟩) ?_ ?_
                                 rotate_left
                                 ·intro w'
                                  go_simp
                                  with_reducible rfl
                                 rotate_left
                                 ·simp only [Act.put, List.setIfInBounds_toArray, List.set_cons_zero, List.set_cons_succ, i64_w, i32_w]
                                  rfl
                                 refine pure_ (i := 4) (N := some 169) (v := ?_) (a' := ?_) #[true, false, true, false, true, false, false, false, false, false, false, false, false, false] rfl rfl (any_of HT_.out (by kernel_rfl)) (fun _ _ _ h => h) (Or.inl ⟨by rfl, ?_⟩) ?_ ?_
                                 rotate_left
                                 ·intro w'
                                  go_simp
                                  with_reducible rfl
                                 rotate_left
                                 ·simp only [Act.put, List.setIfInBounds_toArray, List.set_cons_zero, List.set_cons_succ, i64_w, i32_w]
                                  rfl
                                 refine pure_ (i := 6) (N := some 171) (v := ?_) (a' := ?_) #[true, false, true, false, true, false, true, false, false, false, false, false, false, false] rfl rfl (any_of HT_.out (by kernel_rfl)) (fun _ _ _ h => h) (Or.inl ⟨by rfl, ?_⟩) ?_ ?_
                                 rotate_left
                                 ·intro w'
                                  go_simp
                                  with_reducible rfl
                                 rotate_left
                                 ·simp only [Act.put, List.setIfInBounds_toArray, List.set_cons_zero, List.set_cons_succ, i64_w, i32_w]
                                  rfl
                                 refine pure_ (i := 8) (N := some 173) (v := ?_) (a' := ?_) #[true, false, true, false, true, false, true, false, true, false, false, false, false, false] rfl rfl (any_of HT_.out (by kernel_rfl)) (fun _ _ _ h => h) (Or.inl ⟨by rfl, ?_⟩) ?_ ?_
                                 rotate_left
                                 ·intro w'
                                  go_simp
                                  with_reducible rfl
                                 rotate_left
                                 ·simp only [Act.put, List.setIfInBounds_toArray, List.set_cons_zero, List.set_cons_succ, i64_w, i32_w]
                                  rfl
                                 refine take_ (i := 1) (N := some 166) (v := ?_) (a' := ?_) #[true, true, true, false, true, false, true, false, true, false, false, false, false, false] rfl rfl (take_ofW HT_.out HW_.out (by kernel_rfl)) (fun _ _ _ h => h) (Or.inl ⟨by rfl, ?_⟩) hHeld ?_ ?_
                                 rotate_left
                                 ·rintro w' ⟨s0, s1, s2⟩
                                  go_simp
                                  with_reducible rfl
                                 rotate_left
                                 ·simp only [Act.put, List.setIfInBounds_toArray, List.set_cons_zero, List.set_cons_succ, i64_w, i32_w]
                                  rfl
                                 refine pure_ (i := 3) (N := some 168) (v := ?_) (a' := ?_) #[true, true, true, true, true, false, true, false, true, false, false, false, false, false] rfl rfl (any_of HT_.out (by kernel_rfl)) (fun _ _ _ h => h) (Or.inl ⟨by rfl, ?_⟩) ?_ ?_
                                 rotate_left
                                 ·intro w'
                                  go_simp
                                  with_reducible rfl
                                 rotate_left
                                 ·simp only [Act.put, List.setIfInBounds_toArray, List.set_cons_zero, List.set_cons_succ, i64_w, i32_w]
                                  rfl
                                 refine pure_ (i := 5) (N := some 170) (v := ?_) (a' := ?_) #[true, true, true, true, true, true, true, false, true, false, false, false, false, false] rfl rfl (any_of HT_.out (by kernel_rfl)) (fun _ _ _ h => h) (Or.inl ⟨by rfl, ?_⟩) ?_ ?_
                                 rotate_left
                                 ·intro w'
                                  go_simp
                                  with_reducible rfl
                                 rotate_left
                                 ·simp only [Act.put, List.setIfInBounds_toArray, List.set_cons_zero, List.set_cons_succ, i64_w, i32_w]
                                  rfl
                                 refine take_ (i := 7) (N := some 172) (v := ?_) (a' := ?_) #[true, true, true, true, true, true, true, true, true, false, false, false, false, false] rfl rfl (take_ofW HT_.out HW_.out (by kernel_rfl)) (fun _ _ _ h => h) (Or.inl ⟨by rfl, ?_⟩) hHeld ?_ ?_
                                 rotate_left
                                 ·rintro w' ⟨s0, s1, s2⟩
                                  go_simp
                                  with_reducible rfl
                                 rotate_left
                                 ·simp only [Act.put, List.setIfInBounds_toArray, List.set_cons_zero, List.set_cons_succ, i64_w, i32_w]
                                  rfl
                                 refine pure_ (i := 9) (N := some 174) (v := ?_) (a' := ?_) #[true, true, true, true, true, true, true, true, true, true, false, false, false, false] rfl rfl (any_of HT_.out (by kernel_rfl)) (fun _ _ _ h => h) (Or.inl ⟨by rfl, ?_⟩) ?_ ?_
                                 rotate_left
                                 ·intro w'
                                  go_simp
                                  with_reducible rfl
                                 rotate_left
                                 ·simp only [Act.put, List.setIfInBounds_toArray, List.set_cons_zero, List.set_cons_succ, i64_w, i32_w]
                                  rfl
                                 refine pure_ (i := 10) (N := some 175) (v := ?_) (a' := ?_) #[true, true, true, true, true, true, true, true, true, true, true, false, false, false] rfl rfl (any_of HT_.out (by kernel_rfl)) (fun _ _ _ h => h) (Or.inl ⟨by rfl, ?_⟩) ?_ ?_
                                 rotate_left
                                 ·intro w'
                                  go_simp
                                  with_reducible rfl
                                 rotate_left
                                 ·simp only [Act.put, List.setIfInBounds_toArray, List.set_cons_zero, List.set_cons_succ, i64_w, i32_w]
                                  rfl
                                 refine pure_ (i := 11) (N := some 176) (v := ?_) (a' := ?_) #[true, true, true, true, true, true, true, true, true, true, true, true, false, false] rfl rfl (any_of HT_.out (by kernel_rfl)) (fun _ _ _ h => h) (Or.inl ⟨by rfl, ?_⟩) ?_ ?_
                                 rotate_left
                                 ·intro w'
                                  go_simp
                                  with_reducible rfl
                                 rotate_left
                                 ·simp only [Act.put, List.setIfInBounds_toArray, List.set_cons_zero, List.set_cons_succ, i64_w, i32_w]
                                  rfl
                                 refine one_ (i := 12) (N := some 22) #[true, true, true, true, true, true, true, true, true, true, true, true, true, false] rfl rfl (one_of HT_.out (by kernel_rfl)) (by decide) (fun K hK => ?_)
                                 refine box_step ?hg (N := 22) ?hd (cs := #[.int .i64 0, .int .u64 0, .string (⟨#[]⟩ : ByteArray)]) (t := 27) ?hr ?_; (case hd => rfl); (case hg => rfl); (case hr => first | (go_simp; done) | (go_simp; rfl))
                                 intro gb217 hg w114 hbox hb
                                 have n0_ := Aside0.mk (blk_below (g := gb197) (o := .cells #[.int .i64 t193, .int .u64 t194, .string t195] 27 (0, 0)) (by (with_reducible repeat (first | refine blk_drewN ?_ _ | refine blk_drew ?_ | refine blk_alloc ?_ _)); exact BK197.out) hb)
                                 have n1_ := Aside0.mk (blk_below (g := gb202) (o := .cells #[.int .i64 t198, .int .u64 t199, .string t200] 27 (0, 0)) (by (with_reducible repeat (first | refine blk_drewN ?_ _ | refine blk_drew ?_ | refine blk_alloc ?_ _)); exact BK202.out) hb)
                                 have n2_ := Aside0.mk (blk_below (g := gb211) (o := .cells #[.int .i64 t207, .int .u64 t208, .string t209] 27 (0, 0)) (by (with_reducible repeat (first | refine blk_drewN ?_ _ | refine blk_drew ?_ | refine blk_alloc ?_ _)); exact BK211.out) hb)
                                 have n3_ := Aside0.mk (blk_below (g := gb216) (o := .cells #[.int .i64 t212, .int .u64 t213, .string t214] 27 (0, 0)) (by (with_reducible repeat (first | refine blk_drewN ?_ _ | refine blk_drew ?_ | refine blk_alloc ?_ _)); exact BK216.out) hb)
                                 have n4_ := Aside0.mk (below_step (by repeat (first | (with_reducible first | exact HB.out | apply below_alloc | apply pw_below_drewN | apply below_drew1 | refine below_set ?_ GE197.out | refine below_set ?_ GE202.out | refine below_set ?_ GE211.out | refine below_set ?_ GE216.out) | exact HB.out)) hb)
                                 have n5_ := Aside0.mk (hbox)
                                 have n6_ := Aside0.mk ((by rw [hg]; exact (below_size (by repeat (first | (with_reducible first | exact HB.out | apply below_alloc | apply pw_below_drewN | apply below_drew1 | refine below_set ?_ GE197.out | refine below_set ?_ GE202.out | refine below_set ?_ GE211.out | refine below_set ?_ GE216.out) | exact HB.out))) : w.heap.size ≤ gb217))
                                 have n7_ := Aside0.mk ((by rw [hg]; exact (below_size (by repeat (first | (with_reducible first | exact HB.out | apply below_alloc | apply pw_below_drewN | apply below_drew1 | refine below_set ?_ GE197.out | refine below_set ?_ GE202.out | refine below_set ?_ GE211.out | refine below_set ?_ GE216.out) | exact HB.out))) : w.heap.size ≤ gb217))
                                 have n8_ := Aside0.mk ((by rw [hg]; exact Nat.ne_of_lt (blk_lt (g := gb197) (o := .cells #[.int .i64 t193, .int .u64 t194, .string t195] 27 (0, 0)) (by (with_reducible repeat (first | refine blk_drewN ?_ _ | refine blk_drew ?_ | refine blk_alloc ?_ _)); exact BK197.out)) : gb197 ≠ gb217))
                                 have n9_ := Aside0.mk ((by rw [hg]; exact Nat.ne_of_gt (blk_lt (g := gb197) (o := .cells #[.int .i64 t193, .int .u64 t194, .string t195] 27 (0, 0)) (by (with_reducible repeat (first | refine blk_drewN ?_ _ | refine blk_drew ?_ | refine blk_alloc ?_ _)); exact BK197.out)) : gb217 ≠ gb197))
                                 have n10_ := Aside0.mk ((by rw [hg]; exact Nat.ne_of_lt (blk_lt (g := gb202) (o := .cells #[.int .i64 t198, .int .u64 t199, .string t200] 27 (0, 0)) (by (with_reducible repeat (first | refine blk_drewN ?_ _ | refine blk_drew ?_ | refine blk_alloc ?_ _)); exact BK202.out)) : gb202 ≠ gb217))
                                 have n11_ := Aside0.mk ((by rw [hg]; exact Nat.ne_of_gt (blk_lt (g := gb202) (o := .cells #[.int .i64 t198, .int .u64 t199, .string t200] 27 (0, 0)) (by (with_reducible repeat (first | refine blk_drewN ?_ _ | refine blk_drew ?_ | refine blk_alloc ?_ _)); exact BK202.out)) : gb217 ≠ gb202))
                                 have n12_ := Aside0.mk ((by rw [hg]; exact Nat.ne_of_lt (blk_lt (g := gb211) (o := .cells #[.int .i64 t207, .int .u64 t208, .string t209] 27 (0, 0)) (by (with_reducible repeat (first | refine blk_drewN ?_ _ | refine blk_drew ?_ | refine blk_alloc ?_ _)); exact BK211.out)) : gb211 ≠ gb217))
                                 have n13_ := Aside0.mk ((by rw [hg]; exact Nat.ne_of_gt (blk_lt (g := gb211) (o := .cells #[.int .i64 t207, .int .u64 t208, .string t209] 27 (0, 0)) (by (with_reducible repeat (first | refine blk_drewN ?_ _ | refine blk_drew ?_ | refine blk_alloc ?_ _)); exact BK211.out)) : gb217 ≠ gb211))
                                 have n14_ := Aside0.mk ((by rw [hg]; exact Nat.ne_of_lt (blk_lt (g := gb216) (o := .cells #[.int .i64 t212, .int .u64 t213, .string t214] 27 (0, 0)) (by (with_reducible repeat (first | refine blk_drewN ?_ _ | refine blk_drew ?_ | refine blk_alloc ?_ _)); exact BK216.out)) : gb216 ≠ gb217))
                                 have n15_ := Aside0.mk ((by rw [hg]; exact Nat.ne_of_gt (blk_lt (g := gb216) (o := .cells #[.int .i64 t212, .int .u64 t213, .string t214] 27 (0, 0)) (by (with_reducible repeat (first | refine blk_drewN ?_ _ | refine blk_drew ?_ | refine blk_alloc ?_ _)); exact BK216.out)) : gb217 ≠ gb216))
                                 clear BK197
                                 clear BK202
                                 clear BK211
                                 clear BK216
                                 clear HB
                                 have BK197 := n0_
                                 have BK202 := n1_
                                 have BK211 := n2_
                                 have BK216 := n3_
                                 have HB := n4_
                                 have BK217 := n5_
                                 have GW217 := n6_
                                 have GE217 := n7_
                                 have NB197_217 := n8_
                                 have NB217_197 := n9_
                                 have NB202_217 := n10_
                                 have NB217_202 := n11_
                                 have NB211_217 := n12_
                                 have NB217_211 := n13_
                                 have NB216_217 := n14_
                                 have NB217_216 := n15_
                                 clear n0_ n1_ n2_ n3_ n4_ n5_ n6_ n7_ n8_ n9_ n10_ n11_ n12_ n13_ n14_ n15_
                                 clear hb hbox hg
                                 refine hK.out _ _ ⟨(blk_cell BK202.out 0).trans rfl, (blk_cell BK202.out 1).trans rfl, (blk_cell BK202.out 2).trans rfl⟩ (fun hHeld => ?_)
                                 clear hK K
                                 refine norm_ (a' := ?_) ?_ ?_
                                 rotate_left
                                 ·show Act.put _ (some 22) _ = _
                                  simp only [Act.put, List.setIfInBounds_toArray, List.set_cons_zero, List.set_cons_succ, i64_w, i32_w]
                                  rfl
                                 refine one_ (i := 13) (N := none) #[true, true, true, true, true, true, true, true, true, true, true, true, true, true] rfl rfl (one_of HT_.out (by kernel_rfl)) (by decide) (fun K hK => ?_)
                                 have hs115 : w114.cell? ⟨gb217, 0, none⟩ = some (.int .i64 0) := (blk_cell BK217.out 0).trans rfl
                                 have hfs115 := blk_frozen BK217.out 0
                                 have hns115_0 := NB197_217.out
                                 have hns115_1 := NB202_217.out
                                 have hns115_2 := NB211_217.out
                                 have hns115_3 := NB216_217.out
                                 have hms115_0 := NB217_197.out
                                 have hms115_1 := NB217_202.out
                                 have hms115_2 := NB217_211.out
                                 have hms115_3 := NB217_216.out
                                 have hs116 : w114.cell? ⟨gb217, 1, none⟩ = some (.int .u64 0) := (blk_cell BK217.out 1).trans rfl
                                 have hfs116 := blk_frozen BK217.out 1
                                 have hns116_0 := NB197_217.out
                                 have hns116_1 := NB202_217.out
                                 have hns116_2 := NB211_217.out
                                 have hns116_3 := NB216_217.out
                                 have hms116_0 := NB217_197.out
                                 have hms116_1 := NB217_202.out
                                 have hms116_2 := NB217_211.out
                                 have hms116_3 := NB217_216.out
                                 have hs117 : w114.cell? ⟨gb217, 2, none⟩ = some (.string (⟨#[]⟩ : ByteArray)) := (blk_cell BK217.out 2).trans rfl
                                 have hfs117 := blk_frozen BK217.out 2
                                 have hns117_0 := NB197_217.out
                                 have hns117_1 := NB202_217.out
                                 have hns117_2 := NB211_217.out
                                 have hns117_3 := NB216_217.out
                                 have hms117_0 := NB217_197.out
                                 have hms117_1 := NB217_202.out
                                 have hms117_2 := NB217_211.out
                                 have hms117_3 := NB217_216.out
                                 refine skip_ (w1 := ?_) (by rfl) rfl ?_ ?_
                                 rotate_left
                                 ·go_simp
                                  rfl
                                 refine hK.out _ _ ⟨((cell_far (p := ⟨gb217, _, none⟩) NB202_217.out _).trans (((cell_far (p := ⟨gb217, _, none⟩) NB202_217.out _).trans (((cell_far (p := ⟨gb217, _, none⟩) NB202_217.out _).trans (hHeld.1)))))), ((cell_far (p := ⟨gb217, _, none⟩) NB202_217.out _).trans (((cell_far (p := ⟨gb217, _, none⟩) NB202_217.out _).trans (((cell_far (p := ⟨gb217, _, none⟩) NB202_217.out _).trans (hHeld.2.1)))))), ((cell_far (p := ⟨gb217, _, none⟩) NB202_217.out _).trans (((cell_far (p := ⟨gb217, _, none⟩) NB202_217.out _).trans (((cell_far (p := ⟨gb217, _, none⟩) NB202_217.out _).trans (hHeld.2.2))))))⟩ (fun hHeld => ?_)
                                 clear hK K
                                 refine done_ (done_of HT_.out (by kernel_rfl)) ?_
                                 have hnb118 := NB217_197.out
                                 have hnc118 := NB197_217.out
                                 have hnb119 := NB217_202.out
                                 have hnc119 := NB202_217.out
                                 have hnb120 := NB217_211.out
                                 have hnc120 := NB211_217.out
                                 have hnb121 := NB217_216.out
                                 have hnc121 := NB216_217.out
                                 have hcz122_0 : w114.cell? ⟨gb217, 0, none⟩ = some (.int .i64 0) := (blk_cell BK217.out 0).trans rfl
                                 have hcz122_1 : w114.cell? ⟨gb217, 1, none⟩ = some (.int .u64 0) := (blk_cell BK217.out 1).trans rfl
                                 have hcz122_2 : w114.cell? ⟨gb217, 2, none⟩ = some (.string (⟨#[]⟩ : ByteArray)) := (blk_cell BK217.out 2).trans rfl
                                 have hfz122_0 := blk_frozen BK217.out 0
                                 have hfz122_1 := blk_frozen BK217.out 1
                                 have hfz122_2 := blk_frozen BK217.out 2
                                 try go_wp2_with (first | ((with_reducible refine gate_callee (f := 13) rfl ?_); refine goesL_ (some 178) rfl rfl Tryz.func13 (by kernel_rfl) rfl #[.agg #[.int .i64 4, .int .u64 0, .string (((t200.extract 0 (a3 : Int).toNat) ++ a2) ++ (t200.extract (a3 : Int).toNat t200.size))]] rfl (by (try simp only [List.map_toArray, List.map_cons, List.map_nil]); first | done | rfl | (simp only [List.length_drop, List.length_take]; rfl)) ?_; (with_reducible refine (kind_Valid.calls 4 0 (((t200.extract 0 (a3 : Int).toNat) ++ a2) ++ (t200.extract (a3 : Int).toNat t200.size)) true _ A108.out).mono ?_); rintro e w123 ⟨rfl, hb⟩; refine ⟨_, rfl, ?_⟩; have n0_ := Aside0.mk (blk_below (g := gb197) (o := .cells #[.int .i64 t193, .int .u64 t194, .string t195] 27 (0, 0)) (by (with_reducible repeat (first | refine blk_drewN ?_ _ | refine blk_drew ?_ | refine blk_alloc ?_ _)); refine blk_far ?_ NB197_217.out _; (with_reducible repeat (first | refine blk_drewN ?_ _ | refine blk_drew ?_ | refine blk_alloc ?_ _)); refine blk_far ?_ NB197_217.out _; (with_reducible repeat (first | refine blk_drewN ?_ _ | refine blk_drew ?_ | refine blk_alloc ?_ _)); refine blk_far ?_ NB197_217.out _; (with_reducible repeat (first | refine blk_drewN ?_ _ | refine blk_drew ?_ | refine blk_alloc ?_ _)); exact BK197.out) hb); have n1_ := Aside0.mk (blk_below (g := gb202) (o := .cells #[.int .i64 t198, .int .u64 t199, .string t200] 27 (0, 0)) (by (with_reducible repeat (first | refine blk_drewN ?_ _ | refine blk_drew ?_ | refine blk_alloc ?_ _)); refine blk_far ?_ NB202_217.out _; (with_reducible repeat (first | refine blk_drewN ?_ _ | refine blk_drew ?_ | refine blk_alloc ?_ _)); refine blk_far ?_ NB202_217.out _; (with_reducible repeat (first | refine blk_drewN ?_ _ | refine blk_drew ?_ | refine blk_alloc ?_ _)); refine blk_far ?_ NB202_217.out _; (with_reducible repeat (first | refine blk_drewN ?_ _ | refine blk_drew ?_ | refine blk_alloc ?_ _)); exact BK202.out) hb); have n2_ := Aside0.mk (blk_below (g := gb211) (o := .cells #[.int .i64 t207, .int .u64 t208, .string t209] 27 (0, 0)) (by (with_reducible repeat (first | refine blk_drewN ?_ _ | refine blk_drew ?_ | refine blk_alloc ?_ _)); refine blk_far ?_ NB211_217.out _; (with_reducible repeat (first | refine blk_drewN ?_ _ | refine blk_drew ?_ | refine blk_alloc ?_ _)); refine blk_far ?_ NB211_217.out _; (with_reducible repeat (first | refine blk_drewN ?_ _ | refine blk_drew ?_ | refine blk_alloc ?_ _)); refine blk_far ?_ NB211_217.out _; (with_reducible repeat (first | refine blk_drewN ?_ _ | refine blk_drew ?_ | refine blk_alloc ?_ _)); exact BK211.out) hb); have n3_ := Aside0.mk (blk_below (g := gb216) (o := .cells #[.int .i64 t212, .int .u64 t213, .string t214] 27 (0, 0)) (by (with_reducible repeat (first | refine blk_drewN ?_ _ | refine blk_drew ?_ | refine blk_alloc ?_ _)); refine blk_far ?_ NB216_217.out _; (with_reducible repeat (first | refine blk_drewN ?_ _ | refine blk_drew ?_ | refine blk_alloc ?_ _)); refine blk_far ?_ NB216_217.out _; (with_reducible repeat (first | refine blk_drewN ?_ _ | refine blk_drew ?_ | refine blk_alloc ?_ _)); refine blk_far ?_ NB216_217.out _; (with_reducible repeat (first | refine blk_drewN ?_ _ | refine blk_drew ?_ | refine blk_alloc ?_ _)); exact BK216.out) hb); have n4_ := Aside0.mk (blk_below (g := gb217) (o := .cells #[.int .i64 4, .int .u64 0, .string (((t200.extract 0 (a3 : Int).toNat) ++ a2) ++ (t200.extract (a3 : Int).toNat t200.size))] 27 (0, 0)) (by (with_reducible repeat (first | refine blk_drewN ?_ _ | refine blk_drew ?_ | refine blk_alloc ?_ _)); refine blk_put (cs := #[.int .i64 4, .int .u64 0, .string (⟨#[]⟩ : ByteArray)]) ?_ 2 _ rfl; (with_reducible repeat (first | refine blk_drewN ?_ _ | refine blk_drew ?_ | refine blk_alloc ?_ _)); refine blk_put (cs := #[.int .i64 4, .int .u64 0, .string (⟨#[]⟩ : ByteArray)]) ?_ 1 _ rfl; (with_reducible repeat (first | refine blk_drewN ?_ _ | refine blk_drew ?_ | refine blk_alloc ?_ _)); refine blk_put (cs := #[.int .i64 0, .int .u64 0, .string (⟨#[]⟩ : ByteArray)]) ?_ 0 _ rfl; (with_reducible repeat (first | refine blk_drewN ?_ _ | refine blk_drew ?_ | refine blk_alloc ?_ _)); exact BK217.out) hb); have n5_ := Aside0.mk (below_step (by repeat (first | (with_reducible first | exact HB.out | apply below_alloc | apply pw_below_drewN | apply below_drew1 | refine below_set ?_ GE197.out | refine below_set ?_ GE202.out | refine below_set ?_ GE211.out | refine below_set ?_ GE216.out | refine below_set ?_ GE217.out) | exact HB.out)) hb); clear BK197; clear BK202; clear BK211; clear BK216; clear BK217; clear HB; have BK197 := n0_; have BK202 := n1_; have BK211 := n2_; have BK216 := n3_; have BK217 := n4_; have HB := n5_; clear n0_ n1_ n2_ n3_ n4_ n5_; (try clear hb); (try clear hb2); (try clear hk); (try clear hi); have hcz124_0 : w123.cell? ⟨gb217, 0, none⟩ = some (.int .i64 4) := (blk_cell BK217.out 0).trans rfl; have hcz124_1 : w123.cell? ⟨gb217, 1, none⟩ = some (.int .u64 0) := (blk_cell BK217.out 1).trans rfl; have hcz124_2 : w123.cell? ⟨gb217, 2, none⟩ = some (.string (((t200.extract 0 (a3 : Int).toNat) ++ a2) ++ (t200.extract (a3 : Int).toNat t200.size))) := (blk_cell BK217.out 2).trans rfl; have hfz124_0 := blk_frozen BK217.out 0; have hfz124_1 := blk_frozen BK217.out 1; have hfz124_2 := blk_frozen BK217.out 2) | ((with_reducible refine gate_callee (f := 11) rfl ?_); refine goesL_ (some 181) rfl rfl Tryz.func11 (by kernel_rfl) rfl #[.int .i64 5, .agg #[.int .i64 4, .int .u64 0, .string (((t200.extract 0 (a3 : Int).toNat) ++ a2) ++ (t200.extract (a3 : Int).toNat t200.size))]] rfl (by (try simp only [List.map_toArray, List.map_cons, List.map_nil]); first | done | rfl | (simp only [List.length_drop, List.length_take]; rfl)) ?_; (with_reducible refine (conv_Apply.calls 5 4 0 (((t200.extract 0 (a3 : Int).toNat) ++ a2) ++ (t200.extract (a3 : Int).toNat t200.size)) t219 t220 t221 t222 _ ?side1 A109.out).mono ?_); (case side1 => exact laid_below HL.out (by repeat (first | (with_reducible first | exact HB.out | apply below_alloc | apply pw_below_drewN | apply below_drew1 | refine below_set ?_ GE197.out | refine below_set ?_ GE202.out | refine below_set ?_ GE211.out | refine below_set ?_ GE216.out | refine below_set ?_ GE217.out) | exact HB.out))); rintro e w125 ⟨rfl, hb⟩; refine ⟨_, rfl, ?_⟩; have n0_ := Aside0.mk (blk_below (g := gb197) (o := .cells #[.int .i64 t193, .int .u64 t194, .string t195] 27 (0, 0)) (by (with_reducible repeat (first | refine blk_drewN ?_ _ | refine blk_drew ?_ | refine blk_alloc ?_ _)); exact BK197.out) hb); have n1_ := Aside0.mk (blk_below (g := gb202) (o := .cells #[.int .i64 t198, .int .u64 t199, .string t200] 27 (0, 0)) (by (with_reducible repeat (first | refine blk_drewN ?_ _ | refine blk_drew ?_ | refine blk_alloc ?_ _)); exact BK202.out) hb); have n2_ := Aside0.mk (blk_below (g := gb211) (o := .cells #[.int .i64 t207, .int .u64 t208, .string t209] 27 (0, 0)) (by (with_reducible repeat (first | refine blk_drewN ?_ _ | refine blk_drew ?_ | refine blk_alloc ?_ _)); exact BK211.out) hb); have n3_ := Aside0.mk (blk_below (g := gb216) (o := .cells #[.int .i64 t212, .int .u64 t213, .string t214] 27 (0, 0)) (by (with_reducible repeat (first | refine blk_drewN ?_ _ | refine blk_drew ?_ | refine blk_alloc ?_ _)); exact BK216.out) hb); have n4_ := Aside0.mk (blk_below (g := gb217) (o := .cells #[.int .i64 4, .int .u64 0, .string (((t200.extract 0 (a3 : Int).toNat) ++ a2) ++ (t200.extract (a3 : Int).toNat t200.size))] 27 (0, 0)) (by (with_reducible repeat (first | refine blk_drewN ?_ _ | refine blk_drew ?_ | refine blk_alloc ?_ _)); exact BK217.out) hb); have n5_ := Aside0.mk (below_step (by repeat (first | (with_reducible first | exact HB.out | apply below_alloc | apply pw_below_drewN | apply below_drew1 | refine below_set ?_ GE197.out | refine below_set ?_ GE202.out | refine below_set ?_ GE211.out | refine below_set ?_ GE216.out | refine below_set ?_ GE217.out) | exact HB.out)) hb); clear BK197; clear BK202; clear BK211; clear BK216; clear BK217; clear HB; have BK197 := n0_; have BK202 := n1_; have BK211 := n2_; have BK216 := n3_; have BK217 := n4_; have HB := n5_; clear n0_ n1_ n2_ n3_ n4_ n5_; (try clear hb); (try clear hb2); (try clear hk); (try clear hi); have hcz126_0 : w125.cell? ⟨gb217, 0, none⟩ = some (.int .i64 4) := (blk_cell BK217.out 0).trans rfl; have hcz126_1 : w125.cell? ⟨gb217, 1, none⟩ = some (.int .u64 0) := (blk_cell BK217.out 1).trans rfl; have hcz126_2 : w125.cell? ⟨gb217, 2, none⟩ = some (.string (((t200.extract 0 (a3 : Int).toNat) ++ a2) ++ (t200.extract (a3 : Int).toNat t200.size))) := (blk_cell BK217.out 2).trans rfl; have hfz126_0 := blk_frozen BK217.out 0; have hfz126_1 := blk_frozen BK217.out 1; have hfz126_2 := blk_frozen BK217.out 2) | ((with_reducible refine gate_callee (f := 11) rfl ?_); refine goesL_ (some 186) rfl rfl Tryz.func11 (by kernel_rfl) rfl #[.int .i64 6, .agg #[.int .i64 4, .int .u64 0, .string (((t200.extract 0 (a3 : Int).toNat) ++ a2) ++ (t200.extract (a3 : Int).toNat t200.size))]] rfl (by (try simp only [List.map_toArray, List.map_cons, List.map_nil]); first | done | rfl | (simp only [List.length_drop, List.length_take]; rfl)) ?_; (with_reducible refine (conv_Apply.calls 6 4 0 (((t200.extract 0 (a3 : Int).toNat) ++ a2) ++ (t200.extract (a3 : Int).toNat t200.size)) t223 t224 t225 t226 _ ?side1 A110.out).mono ?_); (case side1 => exact laid_below HL.out (by repeat (first | (with_reducible first | exact HB.out | apply below_alloc | apply pw_below_drewN | apply below_drew1 | refine below_set ?_ GE197.out | refine below_set ?_ GE202.out | refine below_set ?_ GE211.out | refine below_set ?_ GE216.out | refine below_set ?_ GE217.out) | exact HB.out))); rintro e w127 ⟨rfl, hb⟩; refine ⟨_, rfl, ?_⟩; have n0_ := Aside0.mk (blk_below (g := gb197) (o := .cells #[.int .i64 t193, .int .u64 t194, .string t195] 27 (0, 0)) (by (with_reducible repeat (first | refine blk_drewN ?_ _ | refine blk_drew ?_ | refine blk_alloc ?_ _)); exact BK197.out) hb); have n1_ := Aside0.mk (blk_below (g := gb202) (o := .cells #[.int .i64 t198, .int .u64 t199, .string t200] 27 (0, 0)) (by (with_reducible repeat (first | refine blk_drewN ?_ _ | refine blk_drew ?_ | refine blk_alloc ?_ _)); exact BK202.out) hb); have n2_ := Aside0.mk (blk_below (g := gb211) (o := .cells #[.int .i64 t207, .int .u64 t208, .string t209] 27 (0, 0)) (by (with_reducible repeat (first | refine blk_drewN ?_ _ | refine blk_drew ?_ | refine blk_alloc ?_ _)); exact BK211.out) hb); have n3_ := Aside0.mk (blk_below (g := gb216) (o := .cells #[.int .i64 t212, .int .u64 t213, .string t214] 27 (0, 0)) (by (with_reducible repeat (first | refine blk_drewN ?_ _ | refine blk_drew ?_ | refine blk_alloc ?_ _)); exact BK216.out) hb); have n4_ := Aside0.mk (blk_below (g := gb217) (o := .cells #[.int .i64 4, .int .u64 0, .string (((t200.extract 0 (a3 : Int).toNat) ++ a2) ++ (t200.extract (a3 : Int).toNat t200.size))] 27 (0, 0)) (by (with_reducible repeat (first | refine blk_drewN ?_ _ | refine blk_drew ?_ | refine blk_alloc ?_ _)); exact BK217.out) hb); have n5_ := Aside0.mk (below_step (by repeat (first | (with_reducible first | exact HB.out | apply below_alloc | apply pw_below_drewN | apply below_drew1 | refine below_set ?_ GE197.out | refine below_set ?_ GE202.out | refine below_set ?_ GE211.out | refine below_set ?_ GE216.out | refine below_set ?_ GE217.out) | exact HB.out)) hb); clear BK197; clear BK202; clear BK211; clear BK216; clear BK217; clear HB; have BK197 := n0_; have BK202 := n1_; have BK211 := n2_; have BK216 := n3_; have BK217 := n4_; have HB := n5_; clear n0_ n1_ n2_ n3_ n4_ n5_; (try clear hb); (try clear hb2); (try clear hk); (try clear hi)))
                                 go_ret
                                 exact ⟨by first | rfl | (simp [errW_none, errW_some] <;> rfl) | (simp [*, errW_none, errW_some] <;> rfl), by repeat (first | (with_reducible first | exact HB.out | apply below_alloc | apply pw_below_drewN | apply below_drew1 | refine below_set ?_ GE197.out | refine below_set ?_ GE202.out | refine below_set ?_ GE211.out | refine below_set ?_ GE216.out | refine below_set ?_ GE217.out) | exact HB.out)⟩
                                ·rw [if_neg c112] at H
                                 have c112b0 : (t222 == 61) = false := beq_eq_false_iff_ne.mpr c112
                                 have c112b1 : (t222 != 61) = true := bne_iff_ne.mpr c112
                                 obtain rfl := Option.some.inj H
                                 try go_wp2
                                 have n0_ := Aside0.mk (blk_drew BK197.out)
                                 have n1_ := Aside0.mk (blk_drew BK202.out)
                                 have n2_ := Aside0.mk (blk_drew BK211.out)
                                 have n3_ := Aside0.mk (blk_drew BK216.out)
                                 have n4_ := Aside0.mk (below_drew1 HB.out)
                                 clear BK197
                                 clear BK202
                                 clear BK211
                                 clear BK216
                                 clear HB
                                 have BK197 := n0_
                                 have BK202 := n1_
                                 have BK211 := n2_
                                 have BK216 := n3_
                                 have HB := n4_
                                 clear n0_ n1_ n2_ n3_ n4_
                                 refine start_ (n := 14) (S := fun w' => w'.cell? ⟨gb202, 0, none⟩ = some (.int .i64 t198) ∧ w'.cell? ⟨gb202, 1, none⟩ = some (.int .u64 t199) ∧ w'.cell? ⟨gb202, 2, none⟩ = some (.string t200)) (ds := []) #[false, false, false, false, false, false, false, false, false, false, false, false, false, false] (by kernel_rfl) rfl rfl ⟨(blk_cell BK202.out 0).trans rfl, (blk_cell BK202.out 1).trans rfl, (blk_cell BK202.out 2).trans rfl⟩ (fun hHeld => ?_); refine with_tabW stratumlaw06_ConvDigits.tab29 stratumlaw06_ConvDigits.bits29 (fun HT_ HW_ => ?_)
                                 generalize wc.drew = w128 at BK197 BK202 BK211 BK216 HB hHeld ⊢
                                 refine pure_ (i := 0) (N := some 165) (v := ?_) (a' := ?_) #[true, false, false, false, false, false, false, false, false, false, false, false, false, false] rfl rfl (any_of HT_.out (by kernel_rfl)) (fun _ _ _ h => h) (Or.inl ⟨by rfl, ?_⟩) ?_ ?_
                                 rotate_left
                                 ·intro w'
                                  go_simp
                                  with_reducible rfl
                                 rotate_left
                                 ·simp only [Act.put, List.setIfInBounds_toArray, List.set_cons_zero, List.set_cons_succ, i64_w, i32_w]
                                  rfl
                                 refine pure_ (i := 2) (N := some 167) (v := ?_) (a' := ?_) #[true, false, true, false, false, false, false, false, false, false, false, false, false, false] rfl rfl (any_of HT_.out (by kernel_rfl)) (fun _ _ _ h => h) (Or.inl ⟨by rfl, ?_⟩) ?_ ?_
                                 rotate_left
                                 ·intro w'
                                  go_simp
                                  with_reducible rfl
                                 rotate_left
                                 ·simp only [Act.put, List.setIfInBounds_toArray, List.set_cons_zero, List.set_cons_succ, i64_w, i32_w]
                                  rfl
                                 refine pure_ (i := 4) (N := some 169) (v := ?_) (a' := ?_) #[true, false, true, false, true, false, false, false, false, false, false, false, false, false] rfl rfl (any_of HT_.out (by kernel_rfl)) (fun _ _ _ h => h) (Or.inl ⟨by rfl, ?_⟩) ?_ ?_
                                 rotate_left
                                 ·intro w'
                                  go_simp
                                  with_reducible rfl
                                 rotate_left
                                 ·simp only [Act.put, List.setIfInBounds_toArray, List.set_cons_zero, List.set_cons_succ, i64_w, i32_w]
                                  rfl
                                 refine pure_ (i := 6) (N := some 171) (v := ?_) (a' := ?_) #[true, false, true, false, true, false, true, false, false, false, false, false, false, false] rfl rfl (any_of HT_.out (by kernel_rfl)) (fun _ _ _ h => h) (Or.inl ⟨by rfl, ?_⟩) ?_ ?_
                                 rotate_left
                                 ·intro w'
                                  go_simp
                                  with_reducible rfl
                                 rotate_left
                                 ·simp only [Act.put, List.setIfInBounds_toArray, List.set_cons_zero, List.set_cons_succ, i64_w, i32_w]
                                  rfl
                                 refine pure_ (i := 8) (N := some 173) (v := ?_) (a' := ?_) #[true, false, true, false, true, false, true, false, true, false, false, false, false, false] rfl rfl (any_of HT_.out (by kernel_rfl)) (fun _ _ _ h => h) (Or.inl ⟨by rfl, ?_⟩) ?_ ?_
                                 rotate_left
                                 ·intro w'
                                  go_simp
                                  with_reducible rfl
                                 rotate_left
                                 ·simp only [Act.put, List.setIfInBounds_toArray, List.set_cons_zero, List.set_cons_succ, i64_w, i32_w]
                                  rfl
                                 refine take_ (i := 1) (N := some 166) (v := ?_) (a' := ?_) #[true, true, true, false, true, false, true, false, true, false, false, false, false, false] rfl rfl (take_ofW HT_.out HW_.out (by kernel_rfl)) (fun _ _ _ h => h) (Or.inl ⟨by rfl, ?_⟩) hHeld ?_ ?_
                                 rotate_left
                                 ·rintro w' ⟨s0, s1, s2⟩
                                  go_simp
                                  with_reducible rfl
                                 rotate_left
                                 ·simp only [Act.put, List.setIfInBounds_toArray, List.set_cons_zero, List.set_cons_succ, i64_w, i32_w]
                                  rfl
                                 refine pure_ (i := 3) (N := some 168) (v := ?_) (a' := ?_) #[true, true, true, true, true, false, true, false, true, false, false, false, false, false] rfl rfl (any_of HT_.out (by kernel_rfl)) (fun _ _ _ h => h) (Or.inl ⟨by rfl, ?_⟩) ?_ ?_
                                 rotate_left
                                 ·intro w'
                                  go_simp
                                  with_reducible rfl
                                 rotate_left
                                 ·simp only [Act.put, List.setIfInBounds_toArray, List.set_cons_zero, List.set_cons_succ, i64_w, i32_w]
                                  rfl
                                 refine pure_ (i := 5) (N := some 170) (v := ?_) (a' := ?_) #[true, true, true, true, true, true, true, false, true, false, false, false, false, false] rfl rfl (any_of HT_.out (by kernel_rfl)) (fun _ _ _ h => h) (Or.inl ⟨by rfl, ?_⟩) ?_ ?_
                                 rotate_left
                                 ·intro w'
                                  go_simp
                                  with_reducible rfl
                                 rotate_left
                                 ·simp only [Act.put, List.setIfInBounds_toArray, List.set_cons_zero, List.set_cons_succ, i64_w, i32_w]
                                  rfl
                                 refine take_ (i := 7) (N := some 172) (v := ?_) (a' := ?_) #[true, true, true, true, true, true, true, true, true, false, false, false, false, false] rfl rfl (take_ofW HT_.out HW_.out (by kernel_rfl)) (fun _ _ _ h => h) (Or.inl ⟨by rfl, ?_⟩) hHeld ?_ ?_
                                 rotate_left
                                 ·rintro w' ⟨s0, s1, s2⟩
                                  go_simp
                                  with_reducible rfl
                                 rotate_left
                                 ·simp only [Act.put, List.setIfInBounds_toArray, List.set_cons_zero, List.set_cons_succ, i64_w, i32_w]
                                  rfl
                                 refine pure_ (i := 9) (N := some 174) (v := ?_) (a' := ?_) #[true, true, true, true, true, true, true, true, true, true, false, false, false, false] rfl rfl (any_of HT_.out (by kernel_rfl)) (fun _ _ _ h => h) (Or.inl ⟨by rfl, ?_⟩) ?_ ?_
                                 rotate_left
                                 ·intro w'
                                  go_simp
                                  with_reducible rfl
                                 rotate_left
                                 ·simp only [Act.put, List.setIfInBounds_toArray, List.set_cons_zero, List.set_cons_succ, i64_w, i32_w]
                                  rfl
                                 refine pure_ (i := 10) (N := some 175) (v := ?_) (a' := ?_) #[true, true, true, true, true, true, true, true, true, true, true, false, false, false] rfl rfl (any_of HT_.out (by kernel_rfl)) (fun _ _ _ h => h) (Or.inl ⟨by rfl, ?_⟩) ?_ ?_
                                 rotate_left
                                 ·intro w'
                                  go_simp
                                  with_reducible rfl
                                 rotate_left
                                 ·simp only [Act.put, List.setIfInBounds_toArray, List.set_cons_zero, List.set_cons_succ, i64_w, i32_w]
                                  rfl
                                 refine pure_ (i := 11) (N := some 176) (v := ?_) (a' := ?_) #[true, true, true, true, true, true, true, true, true, true, true, true, false, false] rfl rfl (any_of HT_.out (by kernel_rfl)) (fun _ _ _ h => h) (Or.inl ⟨by rfl, ?_⟩) ?_ ?_
                                 rotate_left
                                 ·intro w'
                                  go_simp
                                  with_reducible rfl
                                 rotate_left
                                 ·simp only [Act.put, List.setIfInBounds_toArray, List.set_cons_zero, List.set_cons_succ, i64_w, i32_w]
                                  rfl
                                 refine one_ (i := 12) (N := some 22) #[true, true, true, true, true, true, true, true, true, true, true, true, true, false] rfl rfl (one_of HT_.out (by kernel_rfl)) (by decide) (fun K hK => ?_)
                                 refine box_step ?hg (N := 22) ?hd (cs := #[.int .i64 0, .int .u64 0, .string (⟨#[]⟩ : ByteArray)]) (t := 27) ?hr ?_; (case hd => rfl); (case hg => rfl); (case hr => first | (go_simp; done) | (go_simp; rfl))
                                 intro gb217 hg w129 hbox hb
                                 have n0_ := Aside0.mk (blk_below (g := gb197) (o := .cells #[.int .i64 t193, .int .u64 t194, .string t195] 27 (0, 0)) (by (with_reducible repeat (first | refine blk_drewN ?_ _ | refine blk_drew ?_ | refine blk_alloc ?_ _)); exact BK197.out) hb)
                                 have n1_ := Aside0.mk (blk_below (g := gb202) (o := .cells #[.int .i64 t198, .int .u64 t199, .string t200] 27 (0, 0)) (by (with_reducible repeat (first | refine blk_drewN ?_ _ | refine blk_drew ?_ | refine blk_alloc ?_ _)); exact BK202.out) hb)
                                 have n2_ := Aside0.mk (blk_below (g := gb211) (o := .cells #[.int .i64 t207, .int .u64 t208, .string t209] 27 (0, 0)) (by (with_reducible repeat (first | refine blk_drewN ?_ _ | refine blk_drew ?_ | refine blk_alloc ?_ _)); exact BK211.out) hb)
                                 have n3_ := Aside0.mk (blk_below (g := gb216) (o := .cells #[.int .i64 t212, .int .u64 t213, .string t214] 27 (0, 0)) (by (with_reducible repeat (first | refine blk_drewN ?_ _ | refine blk_drew ?_ | refine blk_alloc ?_ _)); exact BK216.out) hb)
                                 have n4_ := Aside0.mk (below_step (by repeat (first | (with_reducible first | exact HB.out | apply below_alloc | apply pw_below_drewN | apply below_drew1 | refine below_set ?_ GE197.out | refine below_set ?_ GE202.out | refine below_set ?_ GE211.out | refine below_set ?_ GE216.out) | exact HB.out)) hb)
                                 have n5_ := Aside0.mk (hbox)
                                 have n6_ := Aside0.mk ((by rw [hg]; exact (below_size (by repeat (first | (with_reducible first | exact HB.out | apply below_alloc | apply pw_below_drewN | apply below_drew1 | refine below_set ?_ GE197.out | refine below_set ?_ GE202.out | refine below_set ?_ GE211.out | refine below_set ?_ GE216.out) | exact HB.out))) : w.heap.size ≤ gb217))
                                 have n7_ := Aside0.mk ((by rw [hg]; exact (below_size (by repeat (first | (with_reducible first | exact HB.out | apply below_alloc | apply pw_below_drewN | apply below_drew1 | refine below_set ?_ GE197.out | refine below_set ?_ GE202.out | refine below_set ?_ GE211.out | refine below_set ?_ GE216.out) | exact HB.out))) : w.heap.size ≤ gb217))
                                 have n8_ := Aside0.mk ((by rw [hg]; exact Nat.ne_of_lt (blk_lt (g := gb197) (o := .cells #[.int .i64 t193, .int .u64 t194, .string t195] 27 (0, 0)) (by (with_reducible repeat (first | refine blk_drewN ?_ _ | refine blk_drew ?_ | refine blk_alloc ?_ _)); exact BK197.out)) : gb197 ≠ gb217))
                                 have n9_ := Aside0.mk ((by rw [hg]; exact Nat.ne_of_gt (blk_lt (g := gb197) (o := .cells #[.int .i64 t193, .int .u64 t194, .string t195] 27 (0, 0)) (by (with_reducible repeat (first | refine blk_drewN ?_ _ | refine blk_drew ?_ | refine blk_alloc ?_ _)); exact BK197.out)) : gb217 ≠ gb197))
                                 have n10_ := Aside0.mk ((by rw [hg]; exact Nat.ne_of_lt (blk_lt (g := gb202) (o := .cells #[.int .i64 t198, .int .u64 t199, .string t200] 27 (0, 0)) (by (with_reducible repeat (first | refine blk_drewN ?_ _ | refine blk_drew ?_ | refine blk_alloc ?_ _)); exact BK202.out)) : gb202 ≠ gb217))
                                 have n11_ := Aside0.mk ((by rw [hg]; exact Nat.ne_of_gt (blk_lt (g := gb202) (o := .cells #[.int .i64 t198, .int .u64 t199, .string t200] 27 (0, 0)) (by (with_reducible repeat (first | refine blk_drewN ?_ _ | refine blk_drew ?_ | refine blk_alloc ?_ _)); exact BK202.out)) : gb217 ≠ gb202))
                                 have n12_ := Aside0.mk ((by rw [hg]; exact Nat.ne_of_lt (blk_lt (g := gb211) (o := .cells #[.int .i64 t207, .int .u64 t208, .string t209] 27 (0, 0)) (by (with_reducible repeat (first | refine blk_drewN ?_ _ | refine blk_drew ?_ | refine blk_alloc ?_ _)); exact BK211.out)) : gb211 ≠ gb217))
                                 have n13_ := Aside0.mk ((by rw [hg]; exact Nat.ne_of_gt (blk_lt (g := gb211) (o := .cells #[.int .i64 t207, .int .u64 t208, .string t209] 27 (0, 0)) (by (with_reducible repeat (first | refine blk_drewN ?_ _ | refine blk_drew ?_ | refine blk_alloc ?_ _)); exact BK211.out)) : gb217 ≠ gb211))
                                 have n14_ := Aside0.mk ((by rw [hg]; exact Nat.ne_of_lt (blk_lt (g := gb216) (o := .cells #[.int .i64 t212, .int .u64 t213, .string t214] 27 (0, 0)) (by (with_reducible repeat (first | refine blk_drewN ?_ _ | refine blk_drew ?_ | refine blk_alloc ?_ _)); exact BK216.out)) : gb216 ≠ gb217))
                                 have n15_ := Aside0.mk ((by rw [hg]; exact Nat.ne_of_gt (blk_lt (g := gb216) (o := .cells #[.int .i64 t212, .int .u64 t213, .string t214] 27 (0, 0)) (by (with_reducible repeat (first | refine blk_drewN ?_ _ | refine blk_drew ?_ | refine blk_alloc ?_ _)); exact BK216.out)) : gb217 ≠ gb216))
                                 clear BK197
                                 clear BK202
                                 clear BK211
                                 clear BK216
                                 clear HB
                                 have BK197 := n0_
                                 have BK202 := n1_
                                 have BK211 := n2_
                                 have BK216 := n3_
                                 have HB := n4_
                                 have BK217 := n5_
                                 have GW217 := n6_
                                 have GE217 := n7_
                                 have NB197_217 := n8_
                                 have NB217_197 := n9_
                                 have NB202_217 := n10_
                                 have NB217_202 := n11_
                                 have NB211_217 := n12_
                                 have NB217_211 := n13_
                                 have NB216_217 := n14_
                                 have NB217_216 := n15_
                                 clear n0_ n1_ n2_ n3_ n4_ n5_ n6_ n7_ n8_ n9_ n10_ n11_ n12_ n13_ n14_ n15_
                                 clear hb hbox hg
                                 refine hK.out _ _ ⟨(blk_cell BK202.out 0).trans rfl, (blk_cell BK202.out 1).trans rfl, (blk_cell BK202.out 2).trans rfl⟩ (fun hHeld => ?_)
                                 clear hK K
                                 refine norm_ (a' := ?_) ?_ ?_
                                 rotate_left
                                 ·show Act.put _ (some 22) _ = _
                                  simp only [Act.put, List.setIfInBounds_toArray, List.set_cons_zero, List.set_cons_succ, i64_w, i32_w]
                                  rfl
                                 refine one_ (i := 13) (N := none) #[true, true, true, true, true, true, true, true, true, true, true, true, true, true] rfl rfl (one_of HT_.out (by kernel_rfl)) (by decide) (fun K hK => ?_)
                                 have hs130 : w129.cell? ⟨gb217, 0, none⟩ = some (.int .i64 0) := (blk_cell BK217.out 0).trans rfl
                                 have hfs130 := blk_frozen BK217.out 0
                                 have hns130_0 := NB197_217.out
                                 have hns130_1 := NB202_217.out
                                 have hns130_2 := NB211_217.out
                                 have hns130_3 := NB216_217.out
                                 have hms130_0 := NB217_197.out
                                 have hms130_1 := NB217_202.out
                                 have hms130_2 := NB217_211.out
                                 have hms130_3 := NB217_216.out
                                 have hs131 : w129.cell? ⟨gb217, 1, none⟩ = some (.int .u64 0) := (blk_cell BK217.out 1).trans rfl
                                 have hfs131 := blk_frozen BK217.out 1
                                 have hns131_0 := NB197_217.out
                                 have hns131_1 := NB202_217.out
                                 have hns131_2 := NB211_217.out
                                 have hns131_3 := NB216_217.out
                                 have hms131_0 := NB217_197.out
                                 have hms131_1 := NB217_202.out
                                 have hms131_2 := NB217_211.out
                                 have hms131_3 := NB217_216.out
                                 have hs132 : w129.cell? ⟨gb217, 2, none⟩ = some (.string (⟨#[]⟩ : ByteArray)) := (blk_cell BK217.out 2).trans rfl
                                 have hfs132 := blk_frozen BK217.out 2
                                 have hns132_0 := NB197_217.out
                                 have hns132_1 := NB202_217.out
                                 have hns132_2 := NB211_217.out
                                 have hns132_3 := NB216_217.out
                                 have hms132_0 := NB217_197.out
                                 have hms132_1 := NB217_202.out
                                 have hms132_2 := NB217_211.out
                                 have hms132_3 := NB217_216.out
                                 refine skip_ (w1 := ?_) (by rfl) rfl ?_ ?_
                                 rotate_left
                                 ·go_simp
                                  rfl
                                 refine hK.out _ _ ⟨((cell_far (p := ⟨gb217, _, none⟩) NB202_217.out _).trans (((cell_far (p := ⟨gb217, _, none⟩) NB202_217.out _).trans (((cell_far (p := ⟨gb217, _, none⟩) NB202_217.out _).trans (hHeld.1)))))), ((cell_far (p := ⟨gb217, _, none⟩) NB202_217.out _).trans (((cell_far (p := ⟨gb217, _, none⟩) NB202_217.out _).trans (((cell_far (p := ⟨gb217, _, none⟩) NB202_217.out _).trans (hHeld.2.1)))))), ((cell_far (p := ⟨gb217, _, none⟩) NB202_217.out _).trans (((cell_far (p := ⟨gb217, _, none⟩) NB202_217.out _).trans (((cell_far (p := ⟨gb217, _, none⟩) NB202_217.out _).trans (hHeld.2.2))))))⟩ (fun hHeld => ?_)
                                 clear hK K
                                 refine done_ (done_of HT_.out (by kernel_rfl)) ?_
                                 have hnb133 := NB217_197.out
                                 have hnc133 := NB197_217.out
                                 have hnb134 := NB217_202.out
                                 have hnc134 := NB202_217.out
                                 have hnb135 := NB217_211.out
                                 have hnc135 := NB211_217.out
                                 have hnb136 := NB217_216.out
                                 have hnc136 := NB216_217.out
                                 have hcz137_0 : w129.cell? ⟨gb217, 0, none⟩ = some (.int .i64 0) := (blk_cell BK217.out 0).trans rfl
                                 have hcz137_1 : w129.cell? ⟨gb217, 1, none⟩ = some (.int .u64 0) := (blk_cell BK217.out 1).trans rfl
                                 have hcz137_2 : w129.cell? ⟨gb217, 2, none⟩ = some (.string (⟨#[]⟩ : ByteArray)) := (blk_cell BK217.out 2).trans rfl
                                 have hfz137_0 := blk_frozen BK217.out 0
                                 have hfz137_1 := blk_frozen BK217.out 1
                                 have hfz137_2 := blk_frozen BK217.out 2
                                 try go_wp2_with (first | ((with_reducible refine gate_callee (f := 13) rfl ?_); refine goesL_ (some 178) rfl rfl Tryz.func13 (by kernel_rfl) rfl #[.agg #[.int .i64 4, .int .u64 0, .string (((t200.extract 0 (a3 : Int).toNat) ++ a2) ++ (t200.extract (a3 : Int).toNat t200.size))]] rfl (by (try simp only [List.map_toArray, List.map_cons, List.map_nil]); first | done | rfl | (simp only [List.length_drop, List.length_take]; rfl)) ?_; (with_reducible refine (kind_Valid.calls 4 0 (((t200.extract 0 (a3 : Int).toNat) ++ a2) ++ (t200.extract (a3 : Int).toNat t200.size)) true _ A108.out).mono ?_); rintro e w138 ⟨rfl, hb⟩; refine ⟨_, rfl, ?_⟩; have n0_ := Aside0.mk (blk_below (g := gb197) (o := .cells #[.int .i64 t193, .int .u64 t194, .string t195] 27 (0, 0)) (by (with_reducible repeat (first | refine blk_drewN ?_ _ | refine blk_drew ?_ | refine blk_alloc ?_ _)); refine blk_far ?_ NB197_217.out _; (with_reducible repeat (first | refine blk_drewN ?_ _ | refine blk_drew ?_ | refine blk_alloc ?_ _)); refine blk_far ?_ NB197_217.out _; (with_reducible repeat (first | refine blk_drewN ?_ _ | refine blk_drew ?_ | refine blk_alloc ?_ _)); refine blk_far ?_ NB197_217.out _; (with_reducible repeat (first | refine blk_drewN ?_ _ | refine blk_drew ?_ | refine blk_alloc ?_ _)); exact BK197.out) hb); have n1_ := Aside0.mk (blk_below (g := gb202) (o := .cells #[.int .i64 t198, .int .u64 t199, .string t200] 27 (0, 0)) (by (with_reducible repeat (first | refine blk_drewN ?_ _ | refine blk_drew ?_ | refine blk_alloc ?_ _)); refine blk_far ?_ NB202_217.out _; (with_reducible repeat (first | refine blk_drewN ?_ _ | refine blk_drew ?_ | refine blk_alloc ?_ _)); refine blk_far ?_ NB202_217.out _; (with_reducible repeat (first | refine blk_drewN ?_ _ | refine blk_drew ?_ | refine blk_alloc ?_ _)); refine blk_far ?_ NB202_217.out _; (with_reducible repeat (first | refine blk_drewN ?_ _ | refine blk_drew ?_ | refine blk_alloc ?_ _)); exact BK202.out) hb); have n2_ := Aside0.mk (blk_below (g := gb211) (o := .cells #[.int .i64 t207, .int .u64 t208, .string t209] 27 (0, 0)) (by (with_reducible repeat (first | refine blk_drewN ?_ _ | refine blk_drew ?_ | refine blk_alloc ?_ _)); refine blk_far ?_ NB211_217.out _; (with_reducible repeat (first | refine blk_drewN ?_ _ | refine blk_drew ?_ | refine blk_alloc ?_ _)); refine blk_far ?_ NB211_217.out _; (with_reducible repeat (first | refine blk_drewN ?_ _ | refine blk_drew ?_ | refine blk_alloc ?_ _)); refine blk_far ?_ NB211_217.out _; (with_reducible repeat (first | refine blk_drewN ?_ _ | refine blk_drew ?_ | refine blk_alloc ?_ _)); exact BK211.out) hb); have n3_ := Aside0.mk (blk_below (g := gb216) (o := .cells #[.int .i64 t212, .int .u64 t213, .string t214] 27 (0, 0)) (by (with_reducible repeat (first | refine blk_drewN ?_ _ | refine blk_drew ?_ | refine blk_alloc ?_ _)); refine blk_far ?_ NB216_217.out _; (with_reducible repeat (first | refine blk_drewN ?_ _ | refine blk_drew ?_ | refine blk_alloc ?_ _)); refine blk_far ?_ NB216_217.out _; (with_reducible repeat (first | refine blk_drewN ?_ _ | refine blk_drew ?_ | refine blk_alloc ?_ _)); refine blk_far ?_ NB216_217.out _; (with_reducible repeat (first | refine blk_drewN ?_ _ | refine blk_drew ?_ | refine blk_alloc ?_ _)); exact BK216.out) hb); have n4_ := Aside0.mk (blk_below (g := gb217) (o := .cells #[.int .i64 4, .int .u64 0, .string (((t200.extract 0 (a3 : Int).toNat) ++ a2) ++ (t200.extract (a3 : Int).toNat t200.size))] 27 (0, 0)) (by (with_reducible repeat (first | refine blk_drewN ?_ _ | refine blk_drew ?_ | refine blk_alloc ?_ _)); refine blk_put (cs := #[.int .i64 4, .int .u64 0, .string (⟨#[]⟩ : ByteArray)]) ?_ 2 _ rfl; (with_reducible repeat (first | refine blk_drewN ?_ _ | refine blk_drew ?_ | refine blk_alloc ?_ _)); refine blk_put (cs := #[.int .i64 4, .int .u64 0, .string (⟨#[]⟩ : ByteArray)]) ?_ 1 _ rfl; (with_reducible repeat (first | refine blk_drewN ?_ _ | refine blk_drew ?_ | refine blk_alloc ?_ _)); refine blk_put (cs := #[.int .i64 0, .int .u64 0, .string (⟨#[]⟩ : ByteArray)]) ?_ 0 _ rfl; (with_reducible repeat (first | refine blk_drewN ?_ _ | refine blk_drew ?_ | refine blk_alloc ?_ _)); exact BK217.out) hb); have n5_ := Aside0.mk (below_step (by repeat (first | (with_reducible first | exact HB.out | apply below_alloc | apply pw_below_drewN | apply below_drew1 | refine below_set ?_ GE197.out | refine below_set ?_ GE202.out | refine below_set ?_ GE211.out | refine below_set ?_ GE216.out | refine below_set ?_ GE217.out) | exact HB.out)) hb); clear BK197; clear BK202; clear BK211; clear BK216; clear BK217; clear HB; have BK197 := n0_; have BK202 := n1_; have BK211 := n2_; have BK216 := n3_; have BK217 := n4_; have HB := n5_; clear n0_ n1_ n2_ n3_ n4_ n5_; (try clear hb); (try clear hb2); (try clear hk); (try clear hi); have hcz139_0 : w138.cell? ⟨gb217, 0, none⟩ = some (.int .i64 4) := (blk_cell BK217.out 0).trans rfl; have hcz139_1 : w138.cell? ⟨gb217, 1, none⟩ = some (.int .u64 0) := (blk_cell BK217.out 1).trans rfl; have hcz139_2 : w138.cell? ⟨gb217, 2, none⟩ = some (.string (((t200.extract 0 (a3 : Int).toNat) ++ a2) ++ (t200.extract (a3 : Int).toNat t200.size))) := (blk_cell BK217.out 2).trans rfl; have hfz139_0 := blk_frozen BK217.out 0; have hfz139_1 := blk_frozen BK217.out 1; have hfz139_2 := blk_frozen BK217.out 2) | ((with_reducible refine gate_callee (f := 11) rfl ?_); refine goesL_ (some 181) rfl rfl Tryz.func11 (by kernel_rfl) rfl #[.int .i64 5, .agg #[.int .i64 4, .int .u64 0, .string (((t200.extract 0 (a3 : Int).toNat) ++ a2) ++ (t200.extract (a3 : Int).toNat t200.size))]] rfl (by (try simp only [List.map_toArray, List.map_cons, List.map_nil]); first | done | rfl | (simp only [List.length_drop, List.length_take]; rfl)) ?_; (with_reducible refine (conv_Apply.calls 5 4 0 (((t200.extract 0 (a3 : Int).toNat) ++ a2) ++ (t200.extract (a3 : Int).toNat t200.size)) t219 t220 t221 t222 _ ?side1 A109.out).mono ?_); (case side1 => exact laid_below HL.out (by repeat (first | (with_reducible first | exact HB.out | apply below_alloc | apply pw_below_drewN | apply below_drew1 | refine below_set ?_ GE197.out | refine below_set ?_ GE202.out | refine below_set ?_ GE211.out | refine below_set ?_ GE216.out | refine below_set ?_ GE217.out) | exact HB.out))); rintro e w140 ⟨rfl, hb⟩; refine ⟨_, rfl, ?_⟩; have n0_ := Aside0.mk (blk_below (g := gb197) (o := .cells #[.int .i64 t193, .int .u64 t194, .string t195] 27 (0, 0)) (by (with_reducible repeat (first | refine blk_drewN ?_ _ | refine blk_drew ?_ | refine blk_alloc ?_ _)); exact BK197.out) hb); have n1_ := Aside0.mk (blk_below (g := gb202) (o := .cells #[.int .i64 t198, .int .u64 t199, .string t200] 27 (0, 0)) (by (with_reducible repeat (first | refine blk_drewN ?_ _ | refine blk_drew ?_ | refine blk_alloc ?_ _)); exact BK202.out) hb); have n2_ := Aside0.mk (blk_below (g := gb211) (o := .cells #[.int .i64 t207, .int .u64 t208, .string t209] 27 (0, 0)) (by (with_reducible repeat (first | refine blk_drewN ?_ _ | refine blk_drew ?_ | refine blk_alloc ?_ _)); exact BK211.out) hb); have n3_ := Aside0.mk (blk_below (g := gb216) (o := .cells #[.int .i64 t212, .int .u64 t213, .string t214] 27 (0, 0)) (by (with_reducible repeat (first | refine blk_drewN ?_ _ | refine blk_drew ?_ | refine blk_alloc ?_ _)); exact BK216.out) hb); have n4_ := Aside0.mk (blk_below (g := gb217) (o := .cells #[.int .i64 4, .int .u64 0, .string (((t200.extract 0 (a3 : Int).toNat) ++ a2) ++ (t200.extract (a3 : Int).toNat t200.size))] 27 (0, 0)) (by (with_reducible repeat (first | refine blk_drewN ?_ _ | refine blk_drew ?_ | refine blk_alloc ?_ _)); exact BK217.out) hb); have n5_ := Aside0.mk (below_step (by repeat (first | (with_reducible first | exact HB.out | apply below_alloc | apply pw_below_drewN | apply below_drew1 | refine below_set ?_ GE197.out | refine below_set ?_ GE202.out | refine below_set ?_ GE211.out | refine below_set ?_ GE216.out | refine below_set ?_ GE217.out) | exact HB.out)) hb); clear BK197; clear BK202; clear BK211; clear BK216; clear BK217; clear HB; have BK197 := n0_; have BK202 := n1_; have BK211 := n2_; have BK216 := n3_; have BK217 := n4_; have HB := n5_; clear n0_ n1_ n2_ n3_ n4_ n5_; (try clear hb); (try clear hb2); (try clear hk); (try clear hi); have hcz141_0 : w140.cell? ⟨gb217, 0, none⟩ = some (.int .i64 4) := (blk_cell BK217.out 0).trans rfl; have hcz141_1 : w140.cell? ⟨gb217, 1, none⟩ = some (.int .u64 0) := (blk_cell BK217.out 1).trans rfl; have hcz141_2 : w140.cell? ⟨gb217, 2, none⟩ = some (.string (((t200.extract 0 (a3 : Int).toNat) ++ a2) ++ (t200.extract (a3 : Int).toNat t200.size))) := (blk_cell BK217.out 2).trans rfl; have hfz141_0 := blk_frozen BK217.out 0; have hfz141_1 := blk_frozen BK217.out 1; have hfz141_2 := blk_frozen BK217.out 2) | ((with_reducible refine gate_callee (f := 11) rfl ?_); refine goesL_ (some 186) rfl rfl Tryz.func11 (by kernel_rfl) rfl #[.int .i64 6, .agg #[.int .i64 4, .int .u64 0, .string (((t200.extract 0 (a3 : Int).toNat) ++ a2) ++ (t200.extract (a3 : Int).toNat t200.size))]] rfl (by (try simp only [List.map_toArray, List.map_cons, List.map_nil]); first | done | rfl | (simp only [List.length_drop, List.length_take]; rfl)) ?_; (with_reducible refine (conv_Apply.calls 6 4 0 (((t200.extract 0 (a3 : Int).toNat) ++ a2) ++ (t200.extract (a3 : Int).toNat t200.size)) t223 t224 t225 t226 _ ?side1 A110.out).mono ?_); (case side1 => exact laid_below HL.out (by repeat (first | (with_reducible first | exact HB.out | apply below_alloc | apply pw_below_drewN | apply below_drew1 | refine below_set ?_ GE197.out | refine below_set ?_ GE202.out | refine below_set ?_ GE211.out | refine below_set ?_ GE216.out | refine below_set ?_ GE217.out) | exact HB.out))); rintro e w142 ⟨rfl, hb⟩; refine ⟨_, rfl, ?_⟩; have n0_ := Aside0.mk (blk_below (g := gb197) (o := .cells #[.int .i64 t193, .int .u64 t194, .string t195] 27 (0, 0)) (by (with_reducible repeat (first | refine blk_drewN ?_ _ | refine blk_drew ?_ | refine blk_alloc ?_ _)); exact BK197.out) hb); have n1_ := Aside0.mk (blk_below (g := gb202) (o := .cells #[.int .i64 t198, .int .u64 t199, .string t200] 27 (0, 0)) (by (with_reducible repeat (first | refine blk_drewN ?_ _ | refine blk_drew ?_ | refine blk_alloc ?_ _)); exact BK202.out) hb); have n2_ := Aside0.mk (blk_below (g := gb211) (o := .cells #[.int .i64 t207, .int .u64 t208, .string t209] 27 (0, 0)) (by (with_reducible repeat (first | refine blk_drewN ?_ _ | refine blk_drew ?_ | refine blk_alloc ?_ _)); exact BK211.out) hb); have n3_ := Aside0.mk (blk_below (g := gb216) (o := .cells #[.int .i64 t212, .int .u64 t213, .string t214] 27 (0, 0)) (by (with_reducible repeat (first | refine blk_drewN ?_ _ | refine blk_drew ?_ | refine blk_alloc ?_ _)); exact BK216.out) hb); have n4_ := Aside0.mk (blk_below (g := gb217) (o := .cells #[.int .i64 4, .int .u64 0, .string (((t200.extract 0 (a3 : Int).toNat) ++ a2) ++ (t200.extract (a3 : Int).toNat t200.size))] 27 (0, 0)) (by (with_reducible repeat (first | refine blk_drewN ?_ _ | refine blk_drew ?_ | refine blk_alloc ?_ _)); exact BK217.out) hb); have n5_ := Aside0.mk (below_step (by repeat (first | (with_reducible first | exact HB.out | apply below_alloc | apply pw_below_drewN | apply below_drew1 | refine below_set ?_ GE197.out | refine below_set ?_ GE202.out | refine below_set ?_ GE211.out | refine below_set ?_ GE216.out | refine below_set ?_ GE217.out) | exact HB.out)) hb); clear BK197; clear BK202; clear BK211; clear BK216; clear BK217; clear HB; have BK197 := n0_; have BK202 := n1_; have BK211 := n2_; have BK216 := n3_; have BK217 := n4_; have HB := n5_; clear n0_ n1_ n2_ n3_ n4_ n5_; (try clear hb); (try clear hb2); (try clear hk); (try clear hi)))
                                 go_ret
                                 exact ⟨by first | rfl | (simp [errW_none, errW_some] <;> rfl) | (simp [*, errW_none, errW_some] <;> rfl), by repeat (first | (with_reducible first | exact HB.out | apply below_alloc | apply pw_below_drewN | apply below_drew1 | refine below_set ?_ GE197.out | refine below_set ?_ GE202.out | refine below_set ?_ GE211.out | refine below_set ?_ GE216.out | refine below_set ?_ GE217.out) | exact HB.out)⟩
                               ·replace c111 := Bool.eq_false_iff.mpr c111
                                subst c111
                                have H1 : (some true) = some r := by rw [if_neg (show ¬ (false = true) by decide)] at H; exact H
                                clear H
                                have H := H1
                                clear H1
                                obtain rfl := Option.some.inj H
                                try go_wp2
                                have n0_ := Aside0.mk (blk_drew BK197.out)
                                have n1_ := Aside0.mk (blk_drew BK202.out)
                                have n2_ := Aside0.mk (blk_drew BK211.out)
                                have n3_ := Aside0.mk (blk_drew BK216.out)
                                have n4_ := Aside0.mk (below_drew1 HB.out)
                                clear BK197
                                clear BK202
                                clear BK211
                                clear BK216
                                clear HB
                                have BK197 := n0_
                                have BK202 := n1_
                                have BK211 := n2_
                                have BK216 := n3_
                                have HB := n4_
                                clear n0_ n1_ n2_ n3_ n4_
                                refine start_ (n := 14) (S := fun w' => w'.cell? ⟨gb202, 0, none⟩ = some (.int .i64 t198) ∧ w'.cell? ⟨gb202, 1, none⟩ = some (.int .u64 t199) ∧ w'.cell? ⟨gb202, 2, none⟩ = some (.string t200)) (ds := []) #[false, false, false, false, false, false, false, false, false, false, false, false, false, false] (by kernel_rfl) rfl rfl ⟨(blk_cell BK202.out 0).trans rfl, (blk_cell BK202.out 1).trans rfl, (blk_cell BK202.out 2).trans rfl⟩ (fun hHeld => ?_); refine with_tabW stratumlaw06_ConvDigits.tab29 stratumlaw06_ConvDigits.bits29 (fun HT_ HW_ => ?_)
                                generalize wc.drew = w143 at BK197 BK202 BK211 BK216 HB hHeld ⊢
                                refine pure_ (i := 0) (N := some 165) (v := ?_) (a' := ?_) #[true, false, false, false, false, false, false, false, false, false, false, false, false, false] rfl rfl (any_of HT_.out (by kernel_rfl)) (fun _ _ _ h => h) (Or.inl ⟨by rfl, ?_⟩) ?_ ?_
                                rotate_left
                                ·intro w'
                                 go_simp
                                 with_reducible rfl
                                rotate_left
                                ·simp only [Act.put, List.setIfInBounds_toArray, List.set_cons_zero, List.set_cons_succ, i64_w, i32_w]
                                 rfl
                                refine pure_ (i := 2) (N := some 167) (v := ?_) (a' := ?_) #[true, false, true, false, false, false, false, false, false, false, false, false, false, false] rfl rfl (any_of HT_.out (by kernel_rfl)) (fun _ _ _ h => h) (Or.inl ⟨by rfl, ?_⟩) ?_ ?_
                                rotate_left
                                ·intro w'
                                 go_simp
                                 with_reducible rfl
                                rotate_left
                                ·simp only [Act.put, List.setIfInBounds_toArray, List.set_cons_zero, List.set_cons_succ, i64_w, i32_w]
                                 rfl
                                refine pure_ (i := 4) (N := some 169) (v := ?_) (a' := ?_) #[true, false, true, false, true, false, false, false, false, false, false, false, false, false] rfl rfl (any_of HT_.out (by kernel_rfl)) (fun _ _ _ h => h) (Or.inl ⟨by rfl, ?_⟩) ?_ ?_
                                rotate_left
                                ·intro w'
                                 go_simp
                                 with_reducible rfl
                                rotate_left
                                ·simp only [Act.put, List.setIfInBounds_toArray, List.set_cons_zero, List.set_cons_succ, i64_w, i32_w]
                                 rfl
                                refine pure_ (i := 6) (N := some 171) (v := ?_) (a' := ?_) #[true, false, true, false, true, false, true, false, false, false, false, false, false, false] rfl rfl (any_of HT_.out (by kernel_rfl)) (fun _ _ _ h => h) (Or.inl ⟨by rfl, ?_⟩) ?_ ?_
                                rotate_left
                                ·intro w'
                                 go_simp
                                 with_reducible rfl
                                rotate_left
                                ·simp only [Act.put, List.setIfInBounds_toArray, List.set_cons_zero, List.set_cons_succ, i64_w, i32_w]
                                 rfl
                                refine pure_ (i := 8) (N := some 173) (v := ?_) (a' := ?_) #[true, false, true, false, true, false, true, false, true, false, false, false, false, false] rfl rfl (any_of HT_.out (by kernel_rfl)) (fun _ _ _ h => h) (Or.inl ⟨by rfl, ?_⟩) ?_ ?_
                                rotate_left
                                ·intro w'
                                 go_simp
                                 with_reducible rfl
                                rotate_left
                                ·simp only [Act.put, List.setIfInBounds_toArray, List.set_cons_zero, List.set_cons_succ, i64_w, i32_w]
                                 rfl
                                refine take_ (i := 1) (N := some 166) (v := ?_) (a' := ?_) #[true, true, true, false, true, false, true, false, true, false, false, false, false, false] rfl rfl (take_ofW HT_.out HW_.out (by kernel_rfl)) (fun _ _ _ h => h) (Or.inl ⟨by rfl, ?_⟩) hHeld ?_ ?_
                                rotate_left
                                ·rintro w' ⟨s0, s1, s2⟩
                                 go_simp
                                 with_reducible rfl
                                rotate_left
                                ·simp only [Act.put, List.setIfInBounds_toArray, List.set_cons_zero, List.set_cons_succ, i64_w, i32_w]
                                 rfl
                                refine pure_ (i := 3) (N := some 168) (v := ?_) (a' := ?_) #[true, true, true, true, true, false, true, false, true, false, false, false, false, false] rfl rfl (any_of HT_.out (by kernel_rfl)) (fun _ _ _ h => h) (Or.inl ⟨by rfl, ?_⟩) ?_ ?_
                                rotate_left
                                ·intro w'
                                 go_simp
                                 with_reducible rfl
                                rotate_left
                                ·simp only [Act.put, List.setIfInBounds_toArray, List.set_cons_zero, List.set_cons_succ, i64_w, i32_w]
                                 rfl
                                refine pure_ (i := 5) (N := some 170) (v := ?_) (a' := ?_) #[true, true, true, true, true, true, true, false, true, false, false, false, false, false] rfl rfl (any_of HT_.out (by kernel_rfl)) (fun _ _ _ h => h) (Or.inl ⟨by rfl, ?_⟩) ?_ ?_
                                rotate_left
                                ·intro w'
                                 go_simp
                                 with_reducible rfl
                                rotate_left
                                ·simp only [Act.put, List.setIfInBounds_toArray, List.set_cons_zero, List.set_cons_succ, i64_w, i32_w]
                                 rfl
                                refine take_ (i := 7) (N := some 172) (v := ?_) (a' := ?_) #[true, true, true, true, true, true, true, true, true, false, false, false, false, false] rfl rfl (take_ofW HT_.out HW_.out (by kernel_rfl)) (fun _ _ _ h => h) (Or.inl ⟨by rfl, ?_⟩) hHeld ?_ ?_
                                rotate_left
                                ·rintro w' ⟨s0, s1, s2⟩
                                 go_simp
                                 with_reducible rfl
                                rotate_left
                                ·simp only [Act.put, List.setIfInBounds_toArray, List.set_cons_zero, List.set_cons_succ, i64_w, i32_w]
                                 rfl
                                refine pure_ (i := 9) (N := some 174) (v := ?_) (a' := ?_) #[true, true, true, true, true, true, true, true, true, true, false, false, false, false] rfl rfl (any_of HT_.out (by kernel_rfl)) (fun _ _ _ h => h) (Or.inl ⟨by rfl, ?_⟩) ?_ ?_
                                rotate_left
                                ·intro w'
                                 go_simp
                                 with_reducible rfl
                                rotate_left
                                ·simp only [Act.put, List.setIfInBounds_toArray, List.set_cons_zero, List.set_cons_succ, i64_w, i32_w]
                                 rfl
                                refine pure_ (i := 10) (N := some 175) (v := ?_) (a' := ?_) #[true, true, true, true, true, true, true, true, true, true, true, false, false, false] rfl rfl (any_of HT_.out (by kernel_rfl)) (fun _ _ _ h => h) (Or.inl ⟨by rfl, ?_⟩) ?_ ?_
                                rotate_left
                                ·intro w'
                                 go_simp
                                 with_reducible rfl
                                rotate_left
                                ·simp only [Act.put, List.setIfInBounds_toArray, List.set_cons_zero, List.set_cons_succ, i64_w, i32_w]
                                 rfl
                                refine pure_ (i := 11) (N := some 176) (v := ?_) (a' := ?_) #[true, true, true, true, true, true, true, true, true, true, true, true, false, false] rfl rfl (any_of HT_.out (by kernel_rfl)) (fun _ _ _ h => h) (Or.inl ⟨by rfl, ?_⟩) ?_ ?_
                                rotate_left
                                ·intro w'
                                 go_simp
                                 with_reducible rfl
                                rotate_left
                                ·simp only [Act.put, List.setIfInBounds_toArray, List.set_cons_zero, List.set_cons_succ, i64_w, i32_w]
                                 rfl
                                refine one_ (i := 12) (N := some 22) #[true, true, true, true, true, true, true, true, true, true, true, true, true, false] rfl rfl (one_of HT_.out (by kernel_rfl)) (by decide) (fun K hK => ?_)
                                refine box_step ?hg (N := 22) ?hd (cs := #[.int .i64 0, .int .u64 0, .string (⟨#[]⟩ : ByteArray)]) (t := 27) ?hr ?_; (case hd => rfl); (case hg => rfl); (case hr => first | (go_simp; done) | (go_simp; rfl))
                                intro gb217 hg w144 hbox hb
                                have n0_ := Aside0.mk (blk_below (g := gb197) (o := .cells #[.int .i64 t193, .int .u64 t194, .string t195] 27 (0, 0)) (by (with_reducible repeat (first | refine blk_drewN ?_ _ | refine blk_drew ?_ | refine blk_alloc ?_ _)); exact BK197.out) hb)
                                have n1_ := Aside0.mk (blk_below (g := gb202) (o := .cells #[.int .i64 t198, .int .u64 t199, .string t200] 27 (0, 0)) (by (with_reducible repeat (first | refine blk_drewN ?_ _ | refine blk_drew ?_ | refine blk_alloc ?_ _)); exact BK202.out) hb)
                                have n2_ := Aside0.mk (blk_below (g := gb211) (o := .cells #[.int .i64 t207, .int .u64 t208, .string t209] 27 (0, 0)) (by (with_reducible repeat (first | refine blk_drewN ?_ _ | refine blk_drew ?_ | refine blk_alloc ?_ _)); exact BK211.out) hb)
                                have n3_ := Aside0.mk (blk_below (g := gb216) (o := .cells #[.int .i64 t212, .int .u64 t213, .string t214] 27 (0, 0)) (by (with_reducible repeat (first | refine blk_drewN ?_ _ | refine blk_drew ?_ | refine blk_alloc ?_ _)); exact BK216.out) hb)
                                have n4_ := Aside0.mk (below_step (by repeat (first | (with_reducible first | exact HB.out | apply below_alloc | apply pw_below_drewN | apply below_drew1 | refine below_set ?_ GE197.out | refine below_set ?_ GE202.out | refine below_set ?_ GE211.out | refine below_set ?_ GE216.out) | exact HB.out)) hb)
                                have n5_ := Aside0.mk (hbox)
                                have n6_ := Aside0.mk ((by rw [hg]; exact (below_size (by repeat (first | (with_reducible first | exact HB.out | apply below_alloc | apply pw_below_drewN | apply below_drew1 | refine below_set ?_ GE197.out | refine below_set ?_ GE202.out | refine below_set ?_ GE211.out | refine below_set ?_ GE216.out) | exact HB.out))) : w.heap.size ≤ gb217))
                                have n7_ := Aside0.mk ((by rw [hg]; exact (below_size (by repeat (first | (with_reducible first | exact HB.out | apply below_alloc | apply pw_below_drewN | apply below_drew1 | refine below_set ?_ GE197.out | refine below_set ?_ GE202.out | refine below_set ?_ GE211.out | refine below_set ?_ GE216.out) | exact HB.out))) : w.heap.size ≤ gb217))
                                have n8_ := Aside0.mk ((by rw [hg]; exact Nat.ne_of_lt (blk_lt (g := gb197) (o := .cells #[.int .i64 t193, .int .u64 t194, .string t195] 27 (0, 0)) (by (with_reducible repeat (first | refine blk_drewN ?_ _ | refine blk_drew ?_ | refine blk_alloc ?_ _)); exact BK197.out)) : gb197 ≠ gb217))
                                have n9_ := Aside0.mk ((by rw [hg]; exact Nat.ne_of_gt (blk_lt (g := gb197) (o := .cells #[.int .i64 t193, .int .u64 t194, .string t195] 27 (0, 0)) (by (with_reducible repeat (first | refine blk_drewN ?_ _ | refine blk_drew ?_ | refine blk_alloc ?_ _)); exact BK197.out)) : gb217 ≠ gb197))
                                have n10_ := Aside0.mk ((by rw [hg]; exact Nat.ne_of_lt (blk_lt (g := gb202) (o := .cells #[.int .i64 t198, .int .u64 t199, .string t200] 27 (0, 0)) (by (with_reducible repeat (first | refine blk_drewN ?_ _ | refine blk_drew ?_ | refine blk_alloc ?_ _)); exact BK202.out)) : gb202 ≠ gb217))
                                have n11_ := Aside0.mk ((by rw [hg]; exact Nat.ne_of_gt (blk_lt (g := gb202) (o := .cells #[.int .i64 t198, .int .u64 t199, .string t200] 27 (0, 0)) (by (with_reducible repeat (first | refine blk_drewN ?_ _ | refine blk_drew ?_ | refine blk_alloc ?_ _)); exact BK202.out)) : gb217 ≠ gb202))
                                have n12_ := Aside0.mk ((by rw [hg]; exact Nat.ne_of_lt (blk_lt (g := gb211) (o := .cells #[.int .i64 t207, .int .u64 t208, .string t209] 27 (0, 0)) (by (with_reducible repeat (first | refine blk_drewN ?_ _ | refine blk_drew ?_ | refine blk_alloc ?_ _)); exact BK211.out)) : gb211 ≠ gb217))
                                have n13_ := Aside0.mk ((by rw [hg]; exact Nat.ne_of_gt (blk_lt (g := gb211) (o := .cells #[.int .i64 t207, .int .u64 t208, .string t209] 27 (0, 0)) (by (with_reducible repeat (first | refine blk_drewN ?_ _ | refine blk_drew ?_ | refine blk_alloc ?_ _)); exact BK211.out)) : gb217 ≠ gb211))
                                have n14_ := Aside0.mk ((by rw [hg]; exact Nat.ne_of_lt (blk_lt (g := gb216) (o := .cells #[.int .i64 t212, .int .u64 t213, .string t214] 27 (0, 0)) (by (with_reducible repeat (first | refine blk_drewN ?_ _ | refine blk_drew ?_ | refine blk_alloc ?_ _)); exact BK216.out)) : gb216 ≠ gb217))
                                have n15_ := Aside0.mk ((by rw [hg]; exact Nat.ne_of_gt (blk_lt (g := gb216) (o := .cells #[.int .i64 t212, .int .u64 t213, .string t214] 27 (0, 0)) (by (with_reducible repeat (first | refine blk_drewN ?_ _ | refine blk_drew ?_ | refine blk_alloc ?_ _)); exact BK216.out)) : gb217 ≠ gb216))
                                clear BK197
                                clear BK202
                                clear BK211
                                clear BK216
                                clear HB
                                have BK197 := n0_
                                have BK202 := n1_
                                have BK211 := n2_
                                have BK216 := n3_
                                have HB := n4_
                                have BK217 := n5_
                                have GW217 := n6_
                                have GE217 := n7_
                                have NB197_217 := n8_
                                have NB217_197 := n9_
                                have NB202_217 := n10_
                                have NB217_202 := n11_
                                have NB211_217 := n12_
                                have NB217_211 := n13_
                                have NB216_217 := n14_
                                have NB217_216 := n15_
                                clear n0_ n1_ n2_ n3_ n4_ n5_ n6_ n7_ n8_ n9_ n10_ n11_ n12_ n13_ n14_ n15_
                                clear hb hbox hg
                                refine hK.out _ _ ⟨(blk_cell BK202.out 0).trans rfl, (blk_cell BK202.out 1).trans rfl, (blk_cell BK202.out 2).trans rfl⟩ (fun hHeld => ?_)
                                clear hK K
                                refine norm_ (a' := ?_) ?_ ?_
                                rotate_left
                                ·show Act.put _ (some 22) _ = _
                                 simp only [Act.put, List.setIfInBounds_toArray, List.set_cons_zero, List.set_cons_succ, i64_w, i32_w]
                                 rfl
                                refine one_ (i := 13) (N := none) #[true, true, true, true, true, true, true, true, true, true, true, true, true, true] rfl rfl (one_of HT_.out (by kernel_rfl)) (by decide) (fun K hK => ?_)
                                have hs145 : w144.cell? ⟨gb217, 0, none⟩ = some (.int .i64 0) := (blk_cell BK217.out 0).trans rfl
                                have hfs145 := blk_frozen BK217.out 0
                                have hns145_0 := NB197_217.out
                                have hns145_1 := NB202_217.out
                                have hns145_2 := NB211_217.out
                                have hns145_3 := NB216_217.out
                                have hms145_0 := NB217_197.out
                                have hms145_1 := NB217_202.out
                                have hms145_2 := NB217_211.out
                                have hms145_3 := NB217_216.out
                                have hs146 : w144.cell? ⟨gb217, 1, none⟩ = some (.int .u64 0) := (blk_cell BK217.out 1).trans rfl
                                have hfs146 := blk_frozen BK217.out 1
                                have hns146_0 := NB197_217.out
                                have hns146_1 := NB202_217.out
                                have hns146_2 := NB211_217.out
                                have hns146_3 := NB216_217.out
                                have hms146_0 := NB217_197.out
                                have hms146_1 := NB217_202.out
                                have hms146_2 := NB217_211.out
                                have hms146_3 := NB217_216.out
                                have hs147 : w144.cell? ⟨gb217, 2, none⟩ = some (.string (⟨#[]⟩ : ByteArray)) := (blk_cell BK217.out 2).trans rfl
                                have hfs147 := blk_frozen BK217.out 2
                                have hns147_0 := NB197_217.out
                                have hns147_1 := NB202_217.out
                                have hns147_2 := NB211_217.out
                                have hns147_3 := NB216_217.out
                                have hms147_0 := NB217_197.out
                                have hms147_1 := NB217_202.out
                                have hms147_2 := NB217_211.out
                                have hms147_3 := NB217_216.out
                                refine skip_ (w1 := ?_) (by rfl) rfl ?_ ?_
                                rotate_left
                                ·go_simp
                                 rfl
                                refine hK.out _ _ ⟨((cell_far (p := ⟨gb217, _, none⟩) NB202_217.out _).trans (((cell_far (p := ⟨gb217, _, none⟩) NB202_217.out _).trans (((cell_far (p := ⟨gb217, _, none⟩) NB202_217.out _).trans (hHeld.1)))))), ((cell_far (p := ⟨gb217, _, none⟩) NB202_217.out _).trans (((cell_far (p := ⟨gb217, _, none⟩) NB202_217.out _).trans (((cell_far (p := ⟨gb217, _, none⟩) NB202_217.out _).trans (hHeld.2.1)))))), ((cell_far (p := ⟨gb217, _, none⟩) NB202_217.out _).trans (((cell_far (p := ⟨gb217, _, none⟩) NB202_217.out _).trans (((cell_far (p := ⟨gb217, _, none⟩) NB202_217.out _).trans (hHeld.2.2))))))⟩ (fun hHeld => ?_)
                                clear hK K
                                refine done_ (done_of HT_.out (by kernel_rfl)) ?_
                                have hnb148 := NB217_197.out
                                have hnc148 := NB197_217.out
                                have hnb149 := NB217_202.out
                                have hnc149 := NB202_217.out
                                have hnb150 := NB217_211.out
                                have hnc150 := NB211_217.out
                                have hnb151 := NB217_216.out
                                have hnc151 := NB216_217.out
                                have hcz152_0 : w144.cell? ⟨gb217, 0, none⟩ = some (.int .i64 0) := (blk_cell BK217.out 0).trans rfl
                                have hcz152_1 : w144.cell? ⟨gb217, 1, none⟩ = some (.int .u64 0) := (blk_cell BK217.out 1).trans rfl
                                have hcz152_2 : w144.cell? ⟨gb217, 2, none⟩ = some (.string (⟨#[]⟩ : ByteArray)) := (blk_cell BK217.out 2).trans rfl
                                have hfz152_0 := blk_frozen BK217.out 0
                                have hfz152_1 := blk_frozen BK217.out 1
                                have hfz152_2 := blk_frozen BK217.out 2
                                try go_wp2_with (first | ((with_reducible refine gate_callee (f := 13) rfl ?_); refine goesL_ (some 178) rfl rfl Tryz.func13 (by kernel_rfl) rfl #[.agg #[.int .i64 4, .int .u64 0, .string (((t200.extract 0 (a3 : Int).toNat) ++ a2) ++ (t200.extract (a3 : Int).toNat t200.size))]] rfl (by (try simp only [List.map_toArray, List.map_cons, List.map_nil]); first | done | rfl | (simp only [List.length_drop, List.length_take]; rfl)) ?_; (with_reducible refine (kind_Valid.calls 4 0 (((t200.extract 0 (a3 : Int).toNat) ++ a2) ++ (t200.extract (a3 : Int).toNat t200.size)) false _ A108.out).mono ?_); rintro e w153 ⟨rfl, hb⟩; refine ⟨_, rfl, ?_⟩; have n0_ := Aside0.mk (blk_below (g := gb197) (o := .cells #[.int .i64 t193, .int .u64 t194, .string t195] 27 (0, 0)) (by (with_reducible repeat (first | refine blk_drewN ?_ _ | refine blk_drew ?_ | refine blk_alloc ?_ _)); refine blk_far ?_ NB197_217.out _; (with_reducible repeat (first | refine blk_drewN ?_ _ | refine blk_drew ?_ | refine blk_alloc ?_ _)); refine blk_far ?_ NB197_217.out _; (with_reducible repeat (first | refine blk_drewN ?_ _ | refine blk_drew ?_ | refine blk_alloc ?_ _)); refine blk_far ?_ NB197_217.out _; (with_reducible repeat (first | refine blk_drewN ?_ _ | refine blk_drew ?_ | refine blk_alloc ?_ _)); exact BK197.out) hb); have n1_ := Aside0.mk (blk_below (g := gb202) (o := .cells #[.int .i64 t198, .int .u64 t199, .string t200] 27 (0, 0)) (by (with_reducible repeat (first | refine blk_drewN ?_ _ | refine blk_drew ?_ | refine blk_alloc ?_ _)); refine blk_far ?_ NB202_217.out _; (with_reducible repeat (first | refine blk_drewN ?_ _ | refine blk_drew ?_ | refine blk_alloc ?_ _)); refine blk_far ?_ NB202_217.out _; (with_reducible repeat (first | refine blk_drewN ?_ _ | refine blk_drew ?_ | refine blk_alloc ?_ _)); refine blk_far ?_ NB202_217.out _; (with_reducible repeat (first | refine blk_drewN ?_ _ | refine blk_drew ?_ | refine blk_alloc ?_ _)); exact BK202.out) hb); have n2_ := Aside0.mk (blk_below (g := gb211) (o := .cells #[.int .i64 t207, .int .u64 t208, .string t209] 27 (0, 0)) (by (with_reducible repeat (first | refine blk_drewN ?_ _ | refine blk_drew ?_ | refine blk_alloc ?_ _)); refine blk_far ?_ NB211_217.out _; (with_reducible repeat (first | refine blk_drewN ?_ _ | refine blk_drew ?_ | refine blk_alloc ?_ _)); refine blk_far ?_ NB211_217.out _; (with_reducible repeat (first | refine blk_drewN ?_ _ | refine blk_drew ?_ | refine blk_alloc ?_ _)); refine blk_far ?_ NB211_217.out _; (with_reducible repeat (first | refine blk_drewN ?_ _ | refine blk_drew ?_ | refine blk_alloc ?_ _)); exact BK211.out) hb); have n3_ := Aside0.mk (blk_below (g := gb216) (o := .cells #[.int .i64 t212, .int .u64 t213, .string t214] 27 (0, 0)) (by (with_reducible repeat (first | refine blk_drewN ?_ _ | refine blk_drew ?_ | refine blk_alloc ?_ _)); refine blk_far ?_ NB216_217.out _; (with_reducible repeat (first | refine blk_drewN ?_ _ | refine blk_drew ?_ | refine blk_alloc ?_ _)); refine blk_far ?_ NB216_217.out _; (with_reducible repeat (first | refine blk_drewN ?_ _ | refine blk_drew ?_ | refine blk_alloc ?_ _)); refine blk_far ?_ NB216_217.out _; (with_reducible repeat (first | refine blk_drewN ?_ _ | refine blk_drew ?_ | refine blk_alloc ?_ _)); exact BK216.out) hb); have n4_ := Aside0.mk (blk_below (g := gb217) (o := .cells #[.int .i64 4, .int .u64 0, .string (((t200.extract 0 (a3 : Int).toNat) ++ a2) ++ (t200.extract (a3 : Int).toNat t200.size))] 27 (0, 0)) (by (with_reducible repeat (first | refine blk_drewN ?_ _ | refine blk_drew ?_ | refine blk_alloc ?_ _)); refine blk_put (cs := #[.int .i64 4, .int .u64 0, .string (⟨#[]⟩ : ByteArray)]) ?_ 2 _ rfl; (with_reducible repeat (first | refine blk_drewN ?_ _ | refine blk_drew ?_ | refine blk_alloc ?_ _)); refine blk_put (cs := #[.int .i64 4, .int .u64 0, .string (⟨#[]⟩ : ByteArray)]) ?_ 1 _ rfl; (with_reducible repeat (first | refine blk_drewN ?_ _ | refine blk_drew ?_ | refine blk_alloc ?_ _)); refine blk_put (cs := #[.int .i64 0, .int .u64 0, .string (⟨#[]⟩ : ByteArray)]) ?_ 0 _ rfl; (with_reducible repeat (first | refine blk_drewN ?_ _ | refine blk_drew ?_ | refine blk_alloc ?_ _)); exact BK217.out) hb); have n5_ := Aside0.mk (below_step (by repeat (first | (with_reducible first | exact HB.out | apply below_alloc | apply pw_below_drewN | apply below_drew1 | refine below_set ?_ GE197.out | refine below_set ?_ GE202.out | refine below_set ?_ GE211.out | refine below_set ?_ GE216.out | refine below_set ?_ GE217.out) | exact HB.out)) hb); clear BK197; clear BK202; clear BK211; clear BK216; clear BK217; clear HB; have BK197 := n0_; have BK202 := n1_; have BK211 := n2_; have BK216 := n3_; have BK217 := n4_; have HB := n5_; clear n0_ n1_ n2_ n3_ n4_ n5_; (try clear hb); (try clear hb2); (try clear hk); (try clear hi); have hcz154_0 : w153.cell? ⟨gb217, 0, none⟩ = some (.int .i64 4) := (blk_cell BK217.out 0).trans rfl; have hcz154_1 : w153.cell? ⟨gb217, 1, none⟩ = some (.int .u64 0) := (blk_cell BK217.out 1).trans rfl; have hcz154_2 : w153.cell? ⟨gb217, 2, none⟩ = some (.string (((t200.extract 0 (a3 : Int).toNat) ++ a2) ++ (t200.extract (a3 : Int).toNat t200.size))) := (blk_cell BK217.out 2).trans rfl; have hfz154_0 := blk_frozen BK217.out 0; have hfz154_1 := blk_frozen BK217.out 1; have hfz154_2 := blk_frozen BK217.out 2) | ((with_reducible refine gate_callee (f := 11) rfl ?_); refine goesL_ (some 181) rfl rfl Tryz.func11 (by kernel_rfl) rfl #[.int .i64 5, .agg #[.int .i64 4, .int .u64 0, .string (((t200.extract 0 (a3 : Int).toNat) ++ a2) ++ (t200.extract (a3 : Int).toNat t200.size))]] rfl (by (try simp only [List.map_toArray, List.map_cons, List.map_nil]); first | done | rfl | (simp only [List.length_drop, List.length_take]; rfl)) ?_; (with_reducible refine (conv_Apply.calls 5 4 0 (((t200.extract 0 (a3 : Int).toNat) ++ a2) ++ (t200.extract (a3 : Int).toNat t200.size)) t219 t220 t221 t222 _ ?side1 A109.out).mono ?_); (case side1 => exact laid_below HL.out (by repeat (first | (with_reducible first | exact HB.out | apply below_alloc | apply pw_below_drewN | apply below_drew1 | refine below_set ?_ GE197.out | refine below_set ?_ GE202.out | refine below_set ?_ GE211.out | refine below_set ?_ GE216.out | refine below_set ?_ GE217.out) | exact HB.out))); rintro e w155 ⟨rfl, hb⟩; refine ⟨_, rfl, ?_⟩; have n0_ := Aside0.mk (blk_below (g := gb197) (o := .cells #[.int .i64 t193, .int .u64 t194, .string t195] 27 (0, 0)) (by (with_reducible repeat (first | refine blk_drewN ?_ _ | refine blk_drew ?_ | refine blk_alloc ?_ _)); exact BK197.out) hb); have n1_ := Aside0.mk (blk_below (g := gb202) (o := .cells #[.int .i64 t198, .int .u64 t199, .string t200] 27 (0, 0)) (by (with_reducible repeat (first | refine blk_drewN ?_ _ | refine blk_drew ?_ | refine blk_alloc ?_ _)); exact BK202.out) hb); have n2_ := Aside0.mk (blk_below (g := gb211) (o := .cells #[.int .i64 t207, .int .u64 t208, .string t209] 27 (0, 0)) (by (with_reducible repeat (first | refine blk_drewN ?_ _ | refine blk_drew ?_ | refine blk_alloc ?_ _)); exact BK211.out) hb); have n3_ := Aside0.mk (blk_below (g := gb216) (o := .cells #[.int .i64 t212, .int .u64 t213, .string t214] 27 (0, 0)) (by (with_reducible repeat (first | refine blk_drewN ?_ _ | refine blk_drew ?_ | refine blk_alloc ?_ _)); exact BK216.out) hb); have n4_ := Aside0.mk (blk_below (g := gb217) (o := .cells #[.int .i64 4, .int .u64 0, .string (((t200.extract 0 (a3 : Int).toNat) ++ a2) ++ (t200.extract (a3 : Int).toNat t200.size))] 27 (0, 0)) (by (with_reducible repeat (first | refine blk_drewN ?_ _ | refine blk_drew ?_ | refine blk_alloc ?_ _)); exact BK217.out) hb); have n5_ := Aside0.mk (below_step (by repeat (first | (with_reducible first | exact HB.out | apply below_alloc | apply pw_below_drewN | apply below_drew1 | refine below_set ?_ GE197.out | refine below_set ?_ GE202.out | refine below_set ?_ GE211.out | refine below_set ?_ GE216.out | refine below_set ?_ GE217.out) | exact HB.out)) hb); clear BK197; clear BK202; clear BK211; clear BK216; clear BK217; clear HB; have BK197 := n0_; have BK202 := n1_; have BK211 := n2_; have BK216 := n3_; have BK217 := n4_; have HB := n5_; clear n0_ n1_ n2_ n3_ n4_ n5_; (try clear hb); (try clear hb2); (try clear hk); (try clear hi); have hcz156_0 : w155.cell? ⟨gb217, 0, none⟩ = some (.int .i64 4) := (blk_cell BK217.out 0).trans rfl; have hcz156_1 : w155.cell? ⟨gb217, 1, none⟩ = some (.int .u64 0) := (blk_cell BK217.out 1).trans rfl; have hcz156_2 : w155.cell? ⟨gb217, 2, none⟩ = some (.string (((t200.extract 0 (a3 : Int).toNat) ++ a2) ++ (t200.extract (a3 : Int).toNat t200.size))) := (blk_cell BK217.out 2).trans rfl; have hfz156_0 := blk_frozen BK217.out 0; have hfz156_1 := blk_frozen BK217.out 1; have hfz156_2 := blk_frozen BK217.out 2) | ((with_reducible refine gate_callee (f := 11) rfl ?_); refine goesL_ (some 186) rfl rfl Tryz.func11 (by kernel_rfl) rfl #[.int .i64 6, .agg #[.int .i64 4, .int .u64 0, .string (((t200.extract 0 (a3 : Int).toNat) ++ a2) ++ (t200.extract (a3 : Int).toNat t200.size))]] rfl (by (try simp only [List.map_toArray, List.map_cons, List.map_nil]); first | done | rfl | (simp only [List.length_drop, List.length_take]; rfl)) ?_; (with_reducible refine (conv_Apply.calls 6 4 0 (((t200.extract 0 (a3 : Int).toNat) ++ a2) ++ (t200.extract (a3 : Int).toNat t200.size)) t223 t224 t225 t226 _ ?side1 A110.out).mono ?_); (case side1 => exact laid_below HL.out (by repeat (first | (with_reducible first | exact HB.out | apply below_alloc | apply pw_below_drewN | apply below_drew1 | refine below_set ?_ GE197.out | refine below_set ?_ GE202.out | refine below_set ?_ GE211.out | refine below_set ?_ GE216.out | refine below_set ?_ GE217.out) | exact HB.out))); rintro e w157 ⟨rfl, hb⟩; refine ⟨_, rfl, ?_⟩; have n0_ := Aside0.mk (blk_below (g := gb197) (o := .cells #[.int .i64 t193, .int .u64 t194, .string t195] 27 (0, 0)) (by (with_reducible repeat (first | refine blk_drewN ?_ _ | refine blk_drew ?_ | refine blk_alloc ?_ _)); exact BK197.out) hb); have n1_ := Aside0.mk (blk_below (g := gb202) (o := .cells #[.int .i64 t198, .int .u64 t199, .string t200] 27 (0, 0)) (by (with_reducible repeat (first | refine blk_drewN ?_ _ | refine blk_drew ?_ | refine blk_alloc ?_ _)); exact BK202.out) hb); have n2_ := Aside0.mk (blk_below (g := gb211) (o := .cells #[.int .i64 t207, .int .u64 t208, .string t209] 27 (0, 0)) (by (with_reducible repeat (first | refine blk_drewN ?_ _ | refine blk_drew ?_ | refine blk_alloc ?_ _)); exact BK211.out) hb); have n3_ := Aside0.mk (blk_below (g := gb216) (o := .cells #[.int .i64 t212, .int .u64 t213, .string t214] 27 (0, 0)) (by (with_reducible repeat (first | refine blk_drewN ?_ _ | refine blk_drew ?_ | refine blk_alloc ?_ _)); exact BK216.out) hb); have n4_ := Aside0.mk (blk_below (g := gb217) (o := .cells #[.int .i64 4, .int .u64 0, .string (((t200.extract 0 (a3 : Int).toNat) ++ a2) ++ (t200.extract (a3 : Int).toNat t200.size))] 27 (0, 0)) (by (with_reducible repeat (first | refine blk_drewN ?_ _ | refine blk_drew ?_ | refine blk_alloc ?_ _)); exact BK217.out) hb); have n5_ := Aside0.mk (below_step (by repeat (first | (with_reducible first | exact HB.out | apply below_alloc | apply pw_below_drewN | apply below_drew1 | refine below_set ?_ GE197.out | refine below_set ?_ GE202.out | refine below_set ?_ GE211.out | refine below_set ?_ GE216.out | refine below_set ?_ GE217.out) | exact HB.out)) hb); clear BK197; clear BK202; clear BK211; clear BK216; clear BK217; clear HB; have BK197 := n0_; have BK202 := n1_; have BK211 := n2_; have BK216 := n3_; have BK217 := n4_; have HB := n5_; clear n0_ n1_ n2_ n3_ n4_ n5_; (try clear hb); (try clear hb2); (try clear hk); (try clear hi)))
                                go_ret
                                exact ⟨by first | rfl | (simp [errW_none, errW_some] <;> rfl) | (simp [*, errW_none, errW_some] <;> rfl), by repeat (first | (with_reducible first | exact HB.out | apply below_alloc | apply pw_below_drewN | apply below_drew1 | refine below_set ?_ GE197.out | refine below_set ?_ GE202.out | refine below_set ?_ GE211.out | refine below_set ?_ GE216.out | refine below_set ?_ GE217.out) | exact HB.out)⟩
                              ·rw [if_neg c107] at H
                               exact absurd H (by simp)
                             ·rw [if_neg c104] at H
                              exact absurd H (by simp)
                            ·rw [if_neg c103] at H
                             exact absurd H (by simp)
                           ·rw [if_neg c102] at H
                            exact absurd H (by simp)
                 ·rw [if_neg c53] at H
                  exact absurd H (by simp)
                ·rw [if_neg c51] at H
                 exact absurd H (by simp)
               ·rw [if_neg c50] at H
                exact absurd H (by simp)
            ·rw [if_neg c41] at H
             exact absurd H (by simp)
        ·rw [if_neg c32] at H
         exact absurd H (by simp)
       ·rw [if_neg c31] at H
        exact absurd H (by simp)

end Go.Proofs.YthfhkfebkpdkcaaGreatDoor.P
