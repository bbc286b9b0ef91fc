-- written by this session's changed print (wip/myprint)
import Derived.Test.YtfnchdlgkkdegaaPAllx0
import Derived.Test.YtfnchdlgkkdegaaPAllx1
import Derived.Test.YtfnchdlgkkdegaaPAllx6
import Derived.Test.YtfnchdlgkkdegaaPAllx8
import Derived.Test.YtfnchdlgkkdegaaPAllx9
import Derived.Test.YtfnchdlgkkdegaaPAllx10
import Derived.Test.YtfnchdlgkkdegaaPAllx11
namespace Go.Proofs.Ytfnchdlgkkdegaa.PAll
open Go.RowKit Go.Proofs.YtfnchdlgkkdegaaW.PrintWords Go.Proofs.YtfnchdlgkkdegaaW.PrintLast Go.Proofs.YtfnchdlgkkdegaaW.PrintMore
attribute [local go_sem] max2_int min2_int max_two min_two max_three min_three max_four min_four   -- for this text's walks alone
set_option linter.unusedVariables false
set_option linter.unusedSimpArgs false

attribute [local go_sem high] eqA35
/-! ### sledgelaw4_BitsWord: function 3 -/
mutual
def sledgelaw4_BitsWord.j0 : Nat → List Int → List (S35) → List ByteArray → List Int → List Int → List (S52) → Option (Bool)
  | 0, _, _, _, _, _, _ => none
  | k + 1, x3, x194000, x194001, x194002, x194003, x194004 => sledgelaw4_BitsWord.l0 k x3 0 x194000 x194001 x194002 x194003 x194004
def sledgelaw4_BitsWord.l0 : Nat → List Int → Int → List (S35) → List ByteArray → List Int → List Int → List (S52) → Option (Bool)
  | 0, _, _, _, _, _, _, _ => none
  | k + 1, x3, x4, x194000, x194001, x194002, x194003, x194004 => if x4 < (x194000.length : Int) then (sledgelaw4_BitsWord.j2 k x3 x4 (decide (x4 < 20)) x194000 x194001 x194002 x194003 x194004) else (sledgelaw4_BitsWord.j2 k x3 x4 false x194000 x194001 x194002 x194003 x194004)
def sledgelaw4_BitsWord.j2 : Nat → List Int → Int → Bool → List (S35) → List ByteArray → List Int → List Int → List (S52) → Option (Bool)
  | 0, _, _, _, _, _, _, _, _ => none
  | k + 1, x3, x4, x35, x194000, x194001, x194002, x194003, x194004 => if x35 = true then (if 0 ≤ x4 then (if x4 < (x194000.length : Int) then ((bits_Word.f k ((rd_T35 x194000 x4).f0) ((rd_T35 x194000 x4).f1) ((rd_T35 x194000 x4).f2) ((rd_T35 x194000 x4).f3) ((rd_T35 x194000 x4).f4) ((rd_T35 x194000 x4).f5)).bind fun bt205 => ((sledgeref3_Ins.f k ((rd_T35 x194000 x4).f0) ((rd_T35 x194000 x4).f1) ((rd_T35 x194000 x4).f2) ((rd_T35 x194000 x4).f3) ((rd_T35 x194000 x4).f4) ((rd_T35 x194000 x4).f5)).bind fun t207 => (if t207 = true then (if ((rd_T35 x194000 x4).f5).toList = ([] : List UInt8) then ((sledgeref3_Word.f k ((rd_T35 x194000 x4).f0) ((rd_T35 x194000 x4).f1) ((rd_T35 x194000 x4).f2) ((rd_T35 x194000 x4).f3) ((rd_T35 x194000 x4).f4) ((rd_T35 x194000 x4).f5)).bind fun t208 => (sledgelaw4_BitsWord.l1 k x3 x4 bt205.1 bt205.2 0 t208 0 x194000 x194001 x194002 x194003 x194004)) else (sledgelaw4_BitsWord.j4 k x3 x4 bt205.1 bt205.2 6 0 x194000 x194001 x194002 x194003 x194004)) else (sledgelaw4_BitsWord.j4 k x3 x4 bt205.1 bt205.2 1 0 x194000 x194001 x194002 x194003 x194004)))) else (none)) else (none)) else (sledgelaw4_BitsWord.l2 k x3 0)
def sledgelaw4_BitsWord.j4 : Nat → List Int → Int → Int → Int → Int → Int → List (S35) → List ByteArray → List Int → List Int → List (S52) → Option (Bool)
  | 0, _, _, _, _, _, _, _, _, _, _, _ => none
  | k + 1, x3, x4, x6, x7, x8, x9, x194000, x194001, x194002, x194003, x194004 => (sledgelaw4_num.f x7).bind fun t212 => (if t212 = x8 then (if x6 = x9 then (sledgelaw4_BitsWord.l0 k x3 (wrap64 (x4 + 1)) x194000 x194001 x194002 x194003 x194004) else (some false)) else (some false))
def sledgelaw4_BitsWord.l1 : Nat → List Int → Int → Int → Int → Int → Int → Int → List (S35) → List ByteArray → List Int → List Int → List (S52) → Option (Bool)
  | 0, _, _, _, _, _, _, _, _, _, _, _, _ => none
  | k + 1, x3, x4, x6, x7, x8, x9, x10, x194000, x194001, x194002, x194003, x194004 => if x10 < 32 then (if 0 ≤ x10 then (if x3.length < 35184372088832 then (sledgelaw4_BitsWord.l1 k (x3 ++ [Go.bits .xor .u32 x9 (shl .u32 1 x10)]) x4 x6 x7 x8 x9 (wrap64 (x10 + 1)) x194000 x194001 x194002 x194003 x194004) else (none)) else (none)) else (sledgelaw4_BitsWord.j4 k x3 x4 x6 x7 x8 x9 x194000 x194001 x194002 x194003 x194004)
def sledgelaw4_BitsWord.l2 : Nat → List Int → Int → Option (Bool)
  | 0, _, _ => none
  | k + 1, x3, x11 => if x11 < (x3.length : Int) then (if 0 ≤ x11 then ((bits_Ins.f k (rd x3 x11)).bind fun bt215 => ((sledgeref3_Unword.f k (rd x3 x11)).bind fun bt224 => ((sledgelaw4_num.f bt215.2.2.2.2.2.2).bind fun t232 => (if (bt224.2.2.2.2.2.2 != (t232 == 0)) = true then (sledgelaw4_BitsWord.j6 k x3 x11 true) else (if bt224.2.2.2.2.2.2 = true then (sledgelaw4_BitsWord.j6 k x3 x11 (!(bt215.1 == bt224.1) || (!(bt215.2.1 == bt224.2.1) || (!(bt215.2.2.1 == bt224.2.2.1) || (!(bt215.2.2.2.1 == bt224.2.2.2.1) || (!(bt215.2.2.2.2.1 == bt224.2.2.2.2.1) || (!(bt215.2.2.2.2.2.1.toList == bt224.2.2.2.2.2.1.toList)))))))) else ((sledgelaw4_num.f bt215.2.2.2.2.2.2).bind fun t233 => (if t232 = 8 then (sledgelaw4_BitsWord.j6 k x3 x11 (!(bt215.1 == bt224.1) || (!(bt215.2.1 == bt224.2.1) || (!(bt215.2.2.1 == bt224.2.2.1) || (!(bt215.2.2.2.1 == bt224.2.2.2.1) || (!(bt215.2.2.2.2.1 == bt224.2.2.2.2.1) || (!(bt215.2.2.2.2.2.1.toList == bt224.2.2.2.2.2.1.toList)))))))) else (sledgelaw4_BitsWord.j6 k x3 x11 true)))))))) else (none)) else ((sledgelaw4_wakes.f k).bind fun t213 => (some t213))
def sledgelaw4_BitsWord.j6 : Nat → List Int → Int → Bool → Option (Bool)
  | 0, _, _, _ => none
  | k + 1, x3, x11, x116 => if x116 = true then (some false) else (sledgelaw4_BitsWord.l2 k x3 (wrap64 (x11 + 1)))
end
def sledgelaw4_BitsWord.f (k : Nat) (l0_0 : List (S35)) (l0_1 : List ByteArray) (l0_2 : List Int) (l0_3 : List Int) (l0_4 : List (S52)) : Option (Bool) := (some (([0, 1, 4294967295] : List Int) : List Int)).bind fun y194 => (if y194.length + l0_2.length < 35184372088832 then ((some (y194 ++ l0_2 : List Int)).bind fun y197 => (if (y197.length : Int) > 20 then (if 20 ≤ (y197.length : Int) then (sledgelaw4_BitsWord.j0 k (y197.take (20 : Int).toNat) l0_0 l0_1 l0_2 l0_3 l0_4) else (none)) else (sledgelaw4_BitsWord.j0 k y197 l0_0 l0_1 l0_2 l0_3 l0_4))) else (none))
theorem sledgelaw4_BitsWord.mono_l : ∀ k, (∀ y0 y1 y2 y3 y4 y5, LeO (sledgelaw4_BitsWord.j0 k y0 y1 y2 y3 y4 y5) (sledgelaw4_BitsWord.j0 (k + 1) y0 y1 y2 y3 y4 y5)) ∧ (∀ y0 y1 y2 y3 y4 y5 y6, LeO (sledgelaw4_BitsWord.l0 k y0 y1 y2 y3 y4 y5 y6) (sledgelaw4_BitsWord.l0 (k + 1) y0 y1 y2 y3 y4 y5 y6)) ∧ (∀ y0 y1 y2 y3 y4 y5 y6 y7, LeO (sledgelaw4_BitsWord.j2 k y0 y1 y2 y3 y4 y5 y6 y7) (sledgelaw4_BitsWord.j2 (k + 1) y0 y1 y2 y3 y4 y5 y6 y7)) ∧ (∀ y0 y1 y2 y3 y4 y5 y6 y7 y8 y9 y10, LeO (sledgelaw4_BitsWord.j4 k y0 y1 y2 y3 y4 y5 y6 y7 y8 y9 y10) (sledgelaw4_BitsWord.j4 (k + 1) y0 y1 y2 y3 y4 y5 y6 y7 y8 y9 y10)) ∧ (∀ y0 y1 y2 y3 y4 y5 y6 y7 y8 y9 y10 y11, LeO (sledgelaw4_BitsWord.l1 k y0 y1 y2 y3 y4 y5 y6 y7 y8 y9 y10 y11) (sledgelaw4_BitsWord.l1 (k + 1) y0 y1 y2 y3 y4 y5 y6 y7 y8 y9 y10 y11)) ∧ (∀ y0 y1, LeO (sledgelaw4_BitsWord.l2 k y0 y1) (sledgelaw4_BitsWord.l2 (k + 1) y0 y1)) ∧ (∀ y0 y1 y2, LeO (sledgelaw4_BitsWord.j6 k y0 y1 y2) (sledgelaw4_BitsWord.j6 (k + 1) y0 y1 y2))
  | 0 => ⟨fun _ _ _ _ _ _ r h => by simp [sledgelaw4_BitsWord.j0] at h, fun _ _ _ _ _ _ _ r h => by simp [sledgelaw4_BitsWord.l0] at h, fun _ _ _ _ _ _ _ _ r h => by simp [sledgelaw4_BitsWord.j2] at h, fun _ _ _ _ _ _ _ _ _ _ _ r h => by simp [sledgelaw4_BitsWord.j4] at h, fun _ _ _ _ _ _ _ _ _ _ _ _ r h => by simp [sledgelaw4_BitsWord.l1] at h, fun _ _ r h => by simp [sledgelaw4_BitsWord.l2] at h, fun _ _ _ r h => by simp [sledgelaw4_BitsWord.j6] at h⟩
  | k + 1 => by
    obtain ⟨ih0, ih1, ih2, ih3, ih4, ih5, ih6⟩ := sledgelaw4_BitsWord.mono_l k
    refine ⟨?_, ?_, ?_, ?_, ?_, ?_, ?_⟩
    · intro y0 y1 y2 y3 y4 y5
      unfold sledgelaw4_BitsWord.j0
      repeat' first
      | (with_reducible exact ih0 _ _ _ _ _ _)
      | (with_reducible exact ih1 _ _ _ _ _ _ _)
      | (with_reducible exact ih2 _ _ _ _ _ _ _ _)
      | (with_reducible exact ih3 _ _ _ _ _ _ _ _ _ _ _)
      | (with_reducible exact ih4 _ _ _ _ _ _ _ _ _ _ _ _)
      | (with_reducible exact ih5 _ _)
      | (with_reducible exact ih6 _ _ _)
      | (with_reducible exact bits_Ins.mono _ _)
      | (with_reducible exact bits_Word.mono _ _ _ _ _ _ _)
      | (with_reducible exact sledgelaw4_wakes.mono _)
      | (with_reducible exact sledgeref3_Ins.mono _ _ _ _ _ _ _)
      | (with_reducible exact sledgeref3_Unword.mono _ _)
      | (with_reducible exact sledgeref3_Word.mono _ _ _ _ _ _ _)
      | (with_reducible exact LeO.refl _)
      | (with_reducible exact LeO.none _)
      | (with_reducible refine LeO.ite ?_ ?_)
      | (with_reducible refine LeO.bind ?_ (fun _ => ?_))
      | exact ih0 _ _ _ _ _ _
      | exact ih1 _ _ _ _ _ _ _
      | exact ih2 _ _ _ _ _ _ _ _
      | exact ih3 _ _ _ _ _ _ _ _ _ _ _
      | exact ih4 _ _ _ _ _ _ _ _ _ _ _ _
      | exact ih5 _ _
      | exact ih6 _ _ _
      | exact bits_Ins.mono _ _
      | exact bits_Word.mono _ _ _ _ _ _ _
      | exact sledgelaw4_wakes.mono _
      | exact sledgeref3_Ins.mono _ _ _ _ _ _ _
      | exact sledgeref3_Unword.mono _ _
      | exact sledgeref3_Word.mono _ _ _ _ _ _ _
      | exact LeO.none _
      | refine LeO.ite ?_ ?_
      | refine LeO.bind ?_ (fun _ => ?_)
    · intro y0 y1 y2 y3 y4 y5 y6
      unfold sledgelaw4_BitsWord.l0
      repeat' first
      | (with_reducible exact ih0 _ _ _ _ _ _)
      | (with_reducible exact ih1 _ _ _ _ _ _ _)
      | (with_reducible exact ih2 _ _ _ _ _ _ _ _)
      | (with_reducible exact ih3 _ _ _ _ _ _ _ _ _ _ _)
      | (with_reducible exact ih4 _ _ _ _ _ _ _ _ _ _ _ _)
      | (with_reducible exact ih5 _ _)
      | (with_reducible exact ih6 _ _ _)
      | (with_reducible exact bits_Ins.mono _ _)
      | (with_reducible exact bits_Word.mono _ _ _ _ _ _ _)
      | (with_reducible exact sledgelaw4_wakes.mono _)
      | (with_reducible exact sledgeref3_Ins.mono _ _ _ _ _ _ _)
      | (with_reducible exact sledgeref3_Unword.mono _ _)
      | (with_reducible exact sledgeref3_Word.mono _ _ _ _ _ _ _)
      | (with_reducible exact LeO.refl _)
      | (with_reducible exact LeO.none _)
      | (with_reducible refine LeO.ite ?_ ?_)
      | (with_reducible refine LeO.bind ?_ (fun _ => ?_))
      | exact ih0 _ _ _ _ _ _
      | exact ih1 _ _ _ _ _ _ _
      | exact ih2 _ _ _ _ _ _ _ _
      | exact ih3 _ _ _ _ _ _ _ _ _ _ _
      | exact ih4 _ _ _ _ _ _ _ _ _ _ _ _
      | exact ih5 _ _
      | exact ih6 _ _ _
      | exact bits_Ins.mono _ _
      | exact bits_Word.mono _ _ _ _ _ _ _
      | exact sledgelaw4_wakes.mono _
      | exact sledgeref3_Ins.mono _ _ _ _ _ _ _
      | exact sledgeref3_Unword.mono _ _
      | exact sledgeref3_Word.mono _ _ _ _ _ _ _
      | exact LeO.none _
      | refine LeO.ite ?_ ?_
      | refine LeO.bind ?_ (fun _ => ?_)
    · intro y0 y1 y2 y3 y4 y5 y6 y7
      unfold sledgelaw4_BitsWord.j2
      repeat' first
      | (with_reducible exact ih0 _ _ _ _ _ _)
      | (with_reducible exact ih1 _ _ _ _ _ _ _)
      | (with_reducible exact ih2 _ _ _ _ _ _ _ _)
      | (with_reducible exact ih3 _ _ _ _ _ _ _ _ _ _ _)
      | (with_reducible exact ih4 _ _ _ _ _ _ _ _ _ _ _ _)
      | (with_reducible exact ih5 _ _)
      | (with_reducible exact ih6 _ _ _)
      | (with_reducible exact bits_Ins.mono _ _)
      | (with_reducible exact bits_Word.mono _ _ _ _ _ _ _)
      | (with_reducible exact sledgelaw4_wakes.mono _)
      | (with_reducible exact sledgeref3_Ins.mono _ _ _ _ _ _ _)
      | (with_reducible exact sledgeref3_Unword.mono _ _)
      | (with_reducible exact sledgeref3_Word.mono _ _ _ _ _ _ _)
      | (with_reducible exact LeO.refl _)
      | (with_reducible exact LeO.none _)
      | (with_reducible refine LeO.ite ?_ ?_)
      | (with_reducible refine LeO.bind ?_ (fun _ => ?_))
      | exact ih0 _ _ _ _ _ _
      | exact ih1 _ _ _ _ _ _ _
      | exact ih2 _ _ _ _ _ _ _ _
      | exact ih3 _ _ _ _ _ _ _ _ _ _ _
      | exact ih4 _ _ _ _ _ _ _ _ _ _ _ _
      | exact ih5 _ _
      | exact ih6 _ _ _
      | exact bits_Ins.mono _ _
      | exact bits_Word.mono _ _ _ _ _ _ _
      | exact sledgelaw4_wakes.mono _
      | exact sledgeref3_Ins.mono _ _ _ _ _ _ _
      | exact sledgeref3_Unword.mono _ _
      | exact sledgeref3_Word.mono _ _ _ _ _ _ _
      | exact LeO.none _
      | refine LeO.ite ?_ ?_
      | refine LeO.bind ?_ (fun _ => ?_)
    · intro y0 y1 y2 y3 y4 y5 y6 y7 y8 y9 y10
      unfold sledgelaw4_BitsWord.j4
      repeat' first
      | (with_reducible exact ih0 _ _ _ _ _ _)
      | (with_reducible exact ih1 _ _ _ _ _ _ _)
      | (with_reducible exact ih2 _ _ _ _ _ _ _ _)
      | (with_reducible exact ih3 _ _ _ _ _ _ _ _ _ _ _)
      | (with_reducible exact ih4 _ _ _ _ _ _ _ _ _ _ _ _)
      | (with_reducible exact ih5 _ _)
      | (with_reducible exact ih6 _ _ _)
      | (with_reducible exact bits_Ins.mono _ _)
      | (with_reducible exact bits_Word.mono _ _ _ _ _ _ _)
      | (with_reducible exact sledgelaw4_wakes.mono _)
      | (with_reducible exact sledgeref3_Ins.mono _ _ _ _ _ _ _)
      | (with_reducible exact sledgeref3_Unword.mono _ _)
      | (with_reducible exact sledgeref3_Word.mono _ _ _ _ _ _ _)
      | (with_reducible exact LeO.refl _)
      | (with_reducible exact LeO.none _)
      | (with_reducible refine LeO.ite ?_ ?_)
      | (with_reducible refine LeO.bind ?_ (fun _ => ?_))
      | exact ih0 _ _ _ _ _ _
      | exact ih1 _ _ _ _ _ _ _
      | exact ih2 _ _ _ _ _ _ _ _
      | exact ih3 _ _ _ _ _ _ _ _ _ _ _
      | exact ih4 _ _ _ _ _ _ _ _ _ _ _ _
      | exact ih5 _ _
      | exact ih6 _ _ _
      | exact bits_Ins.mono _ _
      | exact bits_Word.mono _ _ _ _ _ _ _
      | exact sledgelaw4_wakes.mono _
      | exact sledgeref3_Ins.mono _ _ _ _ _ _ _
      | exact sledgeref3_Unword.mono _ _
      | exact sledgeref3_Word.mono _ _ _ _ _ _ _
      | exact LeO.none _
      | refine LeO.ite ?_ ?_
      | refine LeO.bind ?_ (fun _ => ?_)
    · intro y0 y1 y2 y3 y4 y5 y6 y7 y8 y9 y10 y11
      unfold sledgelaw4_BitsWord.l1
      repeat' first
      | (with_reducible exact ih0 _ _ _ _ _ _)
      | (with_reducible exact ih1 _ _ _ _ _ _ _)
      | (with_reducible exact ih2 _ _ _ _ _ _ _ _)
      | (with_reducible exact ih3 _ _ _ _ _ _ _ _ _ _ _)
      | (with_reducible exact ih4 _ _ _ _ _ _ _ _ _ _ _ _)
      | (with_reducible exact ih5 _ _)
      | (with_reducible exact ih6 _ _ _)
      | (with_reducible exact bits_Ins.mono _ _)
      | (with_reducible exact bits_Word.mono _ _ _ _ _ _ _)
      | (with_reducible exact sledgelaw4_wakes.mono _)
      | (with_reducible exact sledgeref3_Ins.mono _ _ _ _ _ _ _)
      | (with_reducible exact sledgeref3_Unword.mono _ _)
      | (with_reducible exact sledgeref3_Word.mono _ _ _ _ _ _ _)
      | (with_reducible exact LeO.refl _)
      | (with_reducible exact LeO.none _)
      | (with_reducible refine LeO.ite ?_ ?_)
      | (with_reducible refine LeO.bind ?_ (fun _ => ?_))
      | exact ih0 _ _ _ _ _ _
      | exact ih1 _ _ _ _ _ _ _
      | exact ih2 _ _ _ _ _ _ _ _
      | exact ih3 _ _ _ _ _ _ _ _ _ _ _
      | exact ih4 _ _ _ _ _ _ _ _ _ _ _ _
      | exact ih5 _ _
      | exact ih6 _ _ _
      | exact bits_Ins.mono _ _
      | exact bits_Word.mono _ _ _ _ _ _ _
      | exact sledgelaw4_wakes.mono _
      | exact sledgeref3_Ins.mono _ _ _ _ _ _ _
      | exact sledgeref3_Unword.mono _ _
      | exact sledgeref3_Word.mono _ _ _ _ _ _ _
      | exact LeO.none _
      | refine LeO.ite ?_ ?_
      | refine LeO.bind ?_ (fun _ => ?_)
    · intro y0 y1
      unfold sledgelaw4_BitsWord.l2
      repeat' first
      | (with_reducible exact ih0 _ _ _ _ _ _)
      | (with_reducible exact ih1 _ _ _ _ _ _ _)
      | (with_reducible exact ih2 _ _ _ _ _ _ _ _)
      | (with_reducible exact ih3 _ _ _ _ _ _ _ _ _ _ _)
      | (with_reducible exact ih4 _ _ _ _ _ _ _ _ _ _ _ _)
      | (with_reducible exact ih5 _ _)
      | (with_reducible exact ih6 _ _ _)
      | (with_reducible exact bits_Ins.mono _ _)
      | (with_reducible exact bits_Word.mono _ _ _ _ _ _ _)
      | (with_reducible exact sledgelaw4_wakes.mono _)
      | (with_reducible exact sledgeref3_Ins.mono _ _ _ _ _ _ _)
      | (with_reducible exact sledgeref3_Unword.mono _ _)
      | (with_reducible exact sledgeref3_Word.mono _ _ _ _ _ _ _)
      | (with_reducible exact LeO.refl _)
      | (with_reducible exact LeO.none _)
      | (with_reducible refine LeO.ite ?_ ?_)
      | (with_reducible refine LeO.bind ?_ (fun _ => ?_))
      | exact ih0 _ _ _ _ _ _
      | exact ih1 _ _ _ _ _ _ _
      | exact ih2 _ _ _ _ _ _ _ _
      | exact ih3 _ _ _ _ _ _ _ _ _ _ _
      | exact ih4 _ _ _ _ _ _ _ _ _ _ _ _
      | exact ih5 _ _
      | exact ih6 _ _ _
      | exact bits_Ins.mono _ _
      | exact bits_Word.mono _ _ _ _ _ _ _
      | exact sledgelaw4_wakes.mono _
      | exact sledgeref3_Ins.mono _ _ _ _ _ _ _
      | exact sledgeref3_Unword.mono _ _
      | exact sledgeref3_Word.mono _ _ _ _ _ _ _
      | exact LeO.none _
      | refine LeO.ite ?_ ?_
      | refine LeO.bind ?_ (fun _ => ?_)
    · intro y0 y1 y2
      unfold sledgelaw4_BitsWord.j6
      repeat' first
      | (with_reducible exact ih0 _ _ _ _ _ _)
      | (with_reducible exact ih1 _ _ _ _ _ _ _)
      | (with_reducible exact ih2 _ _ _ _ _ _ _ _)
      | (with_reducible exact ih3 _ _ _ _ _ _ _ _ _ _ _)
      | (with_reducible exact ih4 _ _ _ _ _ _ _ _ _ _ _ _)
      | (with_reducible exact ih5 _ _)
      | (with_reducible exact ih6 _ _ _)
      | (with_reducible exact bits_Ins.mono _ _)
      | (with_reducible exact bits_Word.mono _ _ _ _ _ _ _)
      | (with_reducible exact sledgelaw4_wakes.mono _)
      | (with_reducible exact sledgeref3_Ins.mono _ _ _ _ _ _ _)
      | (with_reducible exact sledgeref3_Unword.mono _ _)
      | (with_reducible exact sledgeref3_Word.mono _ _ _ _ _ _ _)
      | (with_reducible exact LeO.refl _)
      | (with_reducible exact LeO.none _)
      | (with_reducible refine LeO.ite ?_ ?_)
      | (with_reducible refine LeO.bind ?_ (fun _ => ?_))
      | exact ih0 _ _ _ _ _ _
      | exact ih1 _ _ _ _ _ _ _
      | exact ih2 _ _ _ _ _ _ _ _
      | exact ih3 _ _ _ _ _ _ _ _ _ _ _
      | exact ih4 _ _ _ _ _ _ _ _ _ _ _ _
      | exact ih5 _ _
      | exact ih6 _ _ _
      | exact bits_Ins.mono _ _
      | exact bits_Word.mono _ _ _ _ _ _ _
      | exact sledgelaw4_wakes.mono _
      | exact sledgeref3_Ins.mono _ _ _ _ _ _ _
      | exact sledgeref3_Unword.mono _ _
      | exact sledgeref3_Word.mono _ _ _ _ _ _ _
      | exact LeO.none _
      | refine LeO.ite ?_ ?_
      | refine LeO.bind ?_ (fun _ => ?_)
theorem sledgelaw4_BitsWord.mono : ∀ a0 a1 a2 a3 a4 k, LeO (sledgelaw4_BitsWord.f k a0 a1 a2 a3 a4) (sledgelaw4_BitsWord.f (k + 1) a0 a1 a2 a3 a4) := by
  intro a0 a1 a2 a3 a4 k
  obtain ⟨ih0, ih1, ih2, ih3, ih4, ih5, ih6⟩ := sledgelaw4_BitsWord.mono_l k
  unfold sledgelaw4_BitsWord.f
  repeat' first
      | (with_reducible exact ih0 _ _ _ _ _ _)
      | (with_reducible exact ih1 _ _ _ _ _ _ _)
      | (with_reducible exact ih2 _ _ _ _ _ _ _ _)
      | (with_reducible exact ih3 _ _ _ _ _ _ _ _ _ _ _)
      | (with_reducible exact ih4 _ _ _ _ _ _ _ _ _ _ _ _)
      | (with_reducible exact ih5 _ _)
      | (with_reducible exact ih6 _ _ _)
      | (with_reducible exact bits_Ins.mono _ _)
      | (with_reducible exact bits_Word.mono _ _ _ _ _ _ _)
      | (with_reducible exact sledgelaw4_wakes.mono _)
      | (with_reducible exact sledgeref3_Ins.mono _ _ _ _ _ _ _)
      | (with_reducible exact sledgeref3_Unword.mono _ _)
      | (with_reducible exact sledgeref3_Word.mono _ _ _ _ _ _ _)
      | (with_reducible exact LeO.refl _)
      | (with_reducible exact LeO.none _)
      | (with_reducible refine LeO.ite ?_ ?_)
      | (with_reducible refine LeO.bind ?_ (fun _ => ?_))
      | exact ih0 _ _ _ _ _ _
      | exact ih1 _ _ _ _ _ _ _
      | exact ih2 _ _ _ _ _ _ _ _
      | exact ih3 _ _ _ _ _ _ _ _ _ _ _
      | exact ih4 _ _ _ _ _ _ _ _ _ _ _ _
      | exact ih5 _ _
      | exact ih6 _ _ _
      | exact bits_Ins.mono _ _
      | exact bits_Word.mono _ _ _ _ _ _ _
      | exact sledgelaw4_wakes.mono _
      | exact sledgeref3_Ins.mono _ _ _ _ _ _ _
      | exact sledgeref3_Unword.mono _ _
      | exact sledgeref3_Word.mono _ _ _ _ _ _ _
      | exact LeO.none _
      | refine LeO.ite ?_ ?_
      | refine LeO.bind ?_ (fun _ => ?_)
set_option maxHeartbeats 8000000 in
set_option maxRecDepth 100000 in
theorem sledgelaw4_BitsWord.calls (k : Nat) (A0_0 : Option Addr) (c0_0 : Nat) (l0_0 : List (S35)) (A0_1 : Option Addr) (c0_1 : Nat) (l0_1 : List ByteArray) (A0_2 : Option Addr) (c0_2 : Nat) (l0_2 : List Int) (A0_3 : Option Addr) (c0_3 : Nat) (l0_3 : List Int) (A0_4 : Option Addr) (c0_4 : Nat) (l0_4 : List (S52)) (r : Bool) (w : World) (hr0_0 : Kd.C k35 w A0_0 l0_0.length l0_0) (hc0_0 : l0_0.length ≤ c0_0) (hr0_1 : Kd.C Kd.string w A0_1 l0_1.length l0_1) (hc0_1 : l0_1.length ≤ c0_1) (hr0_2 : Kd.C (Kd.int .u32) w A0_2 l0_2.length l0_2) (hc0_2 : l0_2.length ≤ c0_2) (hr0_3 : Kd.C (Kd.int .i64) w A0_3 l0_3.length l0_3) (hc0_3 : l0_3.length ≤ c0_3) (hr0_4 : Kd.C k52 w A0_4 l0_4.length l0_4) (hc0_4 : l0_4.length ≤ c0_4) (h : sledgelaw4_BitsWord.f k l0_0 l0_1 l0_2 l0_3 l0_4 = some r) :
    Calls Try.prog 3 #[.agg #[.slice A0_0 l0_0.length c0_0, .slice A0_1 l0_1.length c0_1, .slice A0_2 l0_2.length c0_2, .slice A0_3 l0_3.length c0_3, .slice A0_4 l0_4.length c0_4]] w fun e w' => e = .returned (.bool r) ∧ Below w.heap.size w w' := by
  have hu32 := Try.underlying32
  have hu35 := Try.underlying35
  have HR0_0 := Aside0.mk hr0_0
  have HC0_0 := Aside0.mk hc0_0
  clear hr0_0 hc0_0
  have HR0_1 := Aside0.mk hr0_1
  have HC0_1 := Aside0.mk hc0_1
  clear hr0_1 hc0_1
  have HR0_2 := Aside0.mk hr0_2
  have HC0_2 := Aside0.mk hc0_2
  clear hr0_2 hc0_2
  have HR0_3 := Aside0.mk hr0_3
  have HC0_3 := Aside0.mk hc0_3
  clear hr0_3 hc0_3
  have HR0_4 := Aside0.mk hr0_4
  have HC0_4 := Aside0.mk hc0_4
  clear hr0_4 hc0_4
  have HB := Aside0.mk (Below.refl w.heap.size w)
  have H : ((some (([0, 1, 4294967295] : List Int) : List Int)).bind fun y194 => (if y194.length + l0_2.length < 35184372088832 then ((some (y194 ++ l0_2 : List Int)).bind fun y197 => (if (y197.length : Int) > 20 then (if 20 ≤ (y197.length : Int) then (sledgelaw4_BitsWord.j0 k (y197.take (20 : Int).toNat) l0_0 l0_1 l0_2 l0_3 l0_4) else (none)) else (sledgelaw4_BitsWord.j0 k y197 l0_0 l0_1 l0_2 l0_3 l0_4))) else (none))) = some r := h
  clear h
  obtain ⟨y194, hy194⟩ : ∃ y_ : List Int, y_ = (([0, 1, 4294967295] : List Int)) := ⟨_, rfl⟩
  replace H : (if y194.length + l0_2.length < 35184372088832 then ((some (y194 ++ l0_2 : List Int)).bind fun y197 => (if (y197.length : Int) > 20 then (if 20 ≤ (y197.length : Int) then (sledgelaw4_BitsWord.j0 k (y197.take (20 : Int).toNat) l0_0 l0_1 l0_2 l0_3 l0_4) else (none)) else (sledgelaw4_BitsWord.j0 k y197 l0_0 l0_1 l0_2 l0_3 l0_4))) else (none)) = some r := by first | (rw [hy194]; with_reducible exact H) | (have H2_ := (Option.bind_some _ _).symm.trans H; rw [hy194]; with_reducible exact H2_) | (have H2_ := (Option.bind_some _ _).symm.trans H; with_reducible exact H2_) | with_reducible exact H | (rw [hy194]; exact H) | exact H
  have Ny194 := Aside0.mk hy194
  clear hy194
  by_cases c2 : y194.length + l0_2.length < 35184372088832
  · rw [if_pos c2] at H
    have LMc2 := Aside0.mk c2
    clear c2
    obtain ⟨y197, hy197⟩ : ∃ y_ : List Int, y_ = (y194 ++ l0_2) := ⟨_, rfl⟩
    replace H : (if (y197.length : Int) > 20 then (if 20 ≤ (y197.length : Int) then (sledgelaw4_BitsWord.j0 k (y197.take (20 : Int).toNat) l0_0 l0_1 l0_2 l0_3 l0_4) else (none)) else (sledgelaw4_BitsWord.j0 k y197 l0_0 l0_1 l0_2 l0_3 l0_4)) = some r := by first | (rw [hy197]; with_reducible exact H) | (have H2_ := (Option.bind_some _ _).symm.trans H; rw [hy197]; with_reducible exact H2_) | (have H2_ := (Option.bind_some _ _).symm.trans H; with_reducible exact H2_) | with_reducible exact H | (rw [hy197]; exact H) | exact H
    have Ny197 := Aside0.mk hy197
    clear hy197
    have HC3 := Aside0.mk H
    clear H
    go_enter Try.func3, Try.ntmps3
    go_upto_if 23 with (first | ((with_reducible refine gate_dst (N := 1) rfl ?_); refine box_event ?hg (N := 1) ?hd (cs := #[.slice A0_0 l0_0.length c0_0, .slice A0_1 l0_1.length c0_1, .slice A0_2 l0_2.length c0_2, .slice A0_3 l0_3.length c0_3, .slice A0_4 l0_4.length c0_4]) (t := 32) ?hr ?_; (case hd => rfl); (case hg => rfl); (case hr => first | (go_simp; done) | (go_simp; rfl)); intro gb193 hg w4 hbox hb; have n0_ := Aside0.mk (below_step (by repeat (first | (with_reducible first | exact HB.out | apply below_alloc | apply pw_below_drewN | apply below_drew1) | exact HB.out)) hb); have n1_ := Aside0.mk (hbox); have n2_ := Aside0.mk ((by rw [hg]; exact (below_size (by repeat (first | (with_reducible first | exact HB.out | apply below_alloc | apply pw_below_drewN | apply below_drew1) | exact HB.out))) : w.heap.size ≤ gb193)); have n3_ := Aside0.mk ((by rw [hg]; exact (below_size (by repeat (first | (with_reducible first | exact HB.out | apply below_alloc | apply pw_below_drewN | apply below_drew1) | exact HB.out))) : w.heap.size ≤ gb193)); clear HB; have HB := n0_; have BK193 := n1_; have GW193 := n2_; have GE193 := n3_; clear n0_ n1_ n2_ n3_; clear hb hbox hg) | ((with_reducible refine gate_dst (N := 16) rfl ?_); refine Kd.R_lit (Kd.int .u32) _ 33 ?hg (N := 16) ?hd (xs := ([0, 1, 4294967295] : List Int)) (inner := [.int .u32 0, .int .u32 1, .int .u32 4294967295]) (ok := fun _ => True) (okp := fun _ => True) ?hr ?hp (fun _ hk => hk) trivial (Below.refl _ _) (Nat.le_refl _) (by simp) ?_; (case hd => rfl); (case hg => rfl); (case hr => first | (go_simp; done) | (go_simp; rfl)); (case hp => exact (Reps.one (show Kd.M (Kd.int .u32) _ _ _ 0 [.int .u32 0] from rfl) (Reps.one (show Kd.M (Kd.int .u32) _ _ _ 1 [.int .u32 1] from rfl) (Reps.one (show Kd.M (Kd.int .u32) _ _ _ 4294967295 [.int .u32 4294967295] from rfl) (Reps.none _ _))))); intro v195 w5 ho6 hb hg_ hnew_; clear hg_ hnew_; (first | rw [← Ny194.out] at ho6 | (simp only [Int.reduceToNat] at ho6; rw [← Ny194.out] at ho6)); have n0_ := Aside0.mk (Kd.R_lower ho6 (below_size (by repeat (first | (with_reducible first | exact HB.out | apply below_alloc | apply pw_below_drewN | apply below_drew1 | refine below_set ?_ GE193.out) | exact HB.out)))); have n1_ := Aside0.mk (blk_below (g := gb193) (o := .cells #[.slice A0_0 l0_0.length c0_0, .slice A0_1 l0_1.length c0_1, .slice A0_2 l0_2.length c0_2, .slice A0_3 l0_3.length c0_3, .slice A0_4 l0_4.length c0_4] 32 (0, 0)) (by (with_reducible repeat (first | refine blk_drewN ?_ _ | refine blk_drew ?_ | refine blk_alloc ?_ _)); exact BK193.out) hb); have n2_ := Aside0.mk (below_step (by repeat (first | (with_reducible first | exact HB.out | apply below_alloc | apply pw_below_drewN | apply below_drew1 | refine below_set ?_ GE193.out) | exact HB.out)) hb); clear BK193; clear HB; have HO196 := n0_; have BK193 := n1_; have HB := n2_; clear n0_ n1_ n2_; clear hb ho6; have hcz7_0 : w5.cell? ⟨gb193, 0, none⟩ = some (.slice A0_0 l0_0.length c0_0) := (blk_cell BK193.out 0).trans rfl; have hcz7_1 : w5.cell? ⟨gb193, 1, none⟩ = some (.slice A0_1 l0_1.length c0_1) := (blk_cell BK193.out 1).trans rfl; have hcz7_2 : w5.cell? ⟨gb193, 2, none⟩ = some (.slice A0_2 l0_2.length c0_2) := (blk_cell BK193.out 2).trans rfl; have hcz7_3 : w5.cell? ⟨gb193, 3, none⟩ = some (.slice A0_3 l0_3.length c0_3) := (blk_cell BK193.out 3).trans rfl; have hcz7_4 : w5.cell? ⟨gb193, 4, none⟩ = some (.slice A0_4 l0_4.length c0_4) := (blk_cell BK193.out 4).trans rfl; have hfz7_0 := blk_frozen BK193.out 0; have hfz7_1 := blk_frozen BK193.out 1; have hfz7_2 := blk_frozen BK193.out 2; have hfz7_3 := blk_frozen BK193.out 3; have hfz7_4 := blk_frozen BK193.out 4) | ((with_reducible refine gate_builtin (b := .append) (xs := #[.tmp 16, .tmp 19]) rfl ?_); at_builtin; refine Kd.R_append_rows (Kd.int .u32) (w0 := w) w.heap.size rfl (.tmp 16) (.tmp 19) 26 33 (.int .u32 0) 4 rfl Try.underlying26 info33 rfl (by decide) (by omega) v195 y194 l0_2 _ _ _ (fun _ => True) (fun _ => False) rfl rfl ?aO ?aR (fun _ _ h => h) (fun _ h => h.elim) ?aF ?aB ?aS ?aL ?_; (case aR => repeat (first | exact (Kd.C_below HR0_2.out HB.out) | (with_reducible refine Kd.C_alloc ?_ _) | (with_reducible refine Kd.C_drewN ?_ _) | (with_reducible refine Kd.C_drew ?_))); (case aB => exact (by repeat (first | (with_reducible first | exact HB.out | apply below_alloc | apply pw_below_drewN | apply below_drew1 | refine below_set ?_ GE193.out) | exact HB.out))); (case aF => exact (fun _ _ => trivial)); (case aO => exact (by (with_reducible repeat (first | apply Kd.R_alloc | apply Kd.R_drewN | apply Kd.R_drew)); exact HO196.out)); (case aS => exact (below_size (by repeat (first | (with_reducible first | exact HB.out | apply below_alloc | apply pw_below_drewN | apply below_drew1 | refine below_set ?_ GE193.out) | exact HB.out)))); (case aL => have := LMc2.out; omega); intro v198 w8 ho hb hg hat; rw [← Ny197.out] at ho; have n0_ := Aside0.mk (blk_grown (g := gb193) (o := .cells #[.slice A0_0 l0_0.length c0_0, .slice A0_1 l0_1.length c0_1, .slice A0_2 l0_2.length c0_2, .slice A0_3 l0_3.length c0_3, .slice A0_4 l0_4.length c0_4] 32 (0, 0)) (by (with_reducible repeat (first | refine blk_drewN ?_ _ | refine blk_drew ?_ | refine blk_alloc ?_ _)); exact BK193.out) hg (Kd.R_ne HO196.out BK193.out (by decide))); have n1_ := Aside0.mk (hb); have n2_ := Aside0.mk (ho); clear BK193; clear HB; clear HO196; have BK193 := n0_; have HB := n1_; have HO199 := n2_; clear n0_ n1_ n2_; clear ho hb hg hat; obtain ⟨Ao9, co9, eo9⟩ := Kd.R_slice HO199.out; subst eo9))
    (try simp only [Act.put, List.setIfInBounds_toArray, List.set_cons_zero, List.set_cons_succ])
    go_cut [3] (fun v3 wc => ∃ (kq : Nat) (x3_2 : List Int), Aside0 (sledgelaw4_BitsWord.j0 kq x3_2 l0_0 l0_1 l0_2 l0_3 l0_4 = some r) ∧ Aside0 (kq ≤ k) ∧ Aside0 (Kd.R (Kd.int .u32) 33 wc w.heap.size (fun _ => True) v3 x3_2) ∧ Aside0 (wc.heap[gb193]? = some (.cells #[(.slice A0_0 l0_0.length c0_0), (.slice A0_1 l0_1.length c0_1), (.slice A0_2 l0_2.length c0_2), (.slice A0_3 l0_3.length c0_3), (.slice A0_4 l0_4.length c0_4)] 32 (0, 0))) ∧ Aside0 (Below w.heap.size w wc))
    case first =>
      have H := HC3.out
      clear HC3
      by_cases c10 : (y197.length : Int) > 20
      · rw [if_pos c10] at H
        have c10b0 : decide (20 < (y197.length : Int)) = true := decide_eq_true c10
        have c10b1 : decide (20 < y197.length) = true := decide_eq_true (by omega)
        clear c10
        (first | rw [c10b0] | (simp only [i64_w, i32_w]; rw [c10b0]) | skip)
        by_cases c11 : 20 ≤ (y197.length : Int)
        · rw [if_pos c11] at H
          have c11b0 := eq_true c11
          have c11b1 : decide (20 ≤ (y197.length : Int)) = true := decide_eq_true c11
          clear c11
          obtain ⟨y200, hy200⟩ : ∃ y_ : List Int, y_ = (y197.take (20 : Int).toNat) := ⟨_, rfl⟩
          replace H : (sledgelaw4_BitsWord.j0 k y200 l0_0 l0_1 l0_2 l0_3 l0_4) = some r := by first | (rw [hy200]; with_reducible exact H) | (have H2_ := (Option.bind_some _ _).symm.trans H; rw [hy200]; with_reducible exact H2_) | (have H2_ := (Option.bind_some _ _).symm.trans H; with_reducible exact H2_) | with_reducible exact H | (rw [hy200]; exact H) | exact H
          have Ny200 := Aside0.mk hy200
          clear hy200
          have H' := Aside0.mk H
          clear H
          have q12 : (20 : Int) ≤ ((y197.length : Int) : Int) := of_decide_eq_true (by first | (with_reducible assumption) | assumption)
          obtain ⟨i012, hi012, _, hsz12, _⟩ := info_parts info33
          have hcut12 := cut_to (P := Try.prog) 26 33 .i64 Try.underlying26 hi012 Ao9 y197.length co9 20 (by omega) q12 (Kd.R_reads' HO199.out).2.1
          have hr12 := Kd.R_take (m := (20 : Int).toNat) HO199.out (by omega)
          have hy12 : y200.length = (20 : Int).toNat := (by rw [Ny200.out, List.length_take]; omega)
          rw [← Ny200.out] at hr12
          rw [← hy12] at hr12 hcut12
          clear hy12 hi012 hsz12 HO199
          have HO202 := Aside0.mk hr12
          clear hr12
          replace q12 := eq_true q12
          go_wp2
          go_meet
          case rel => exact ⟨_, (y200), H', ⟨by first | omega | exact Nat.le_refl _⟩, ⟨by (with_reducible repeat (first | apply Kd.R_alloc | apply Kd.R_drewN | apply Kd.R_drew)); exact HO202.out⟩, ⟨by (with_reducible repeat (first | refine blk_drewN ?_ _ | refine blk_drew ?_ | refine blk_alloc ?_ _)); exact BK193.out⟩, ⟨by repeat (first | (with_reducible first | exact HB.out | apply below_alloc | apply pw_below_drewN | apply below_drew1 | refine below_set ?_ GE193.out) | exact HB.out)⟩⟩
        · rw [if_neg c11] at H
          exact absurd H (by simp)
      · rw [if_neg c10] at H
        have c10b0 : decide (20 < (y197.length : Int)) = false := decide_eq_false c10
        have c10b1 : decide (20 < y197.length) = false := decide_eq_false (by omega)
        clear c10
        (first | rw [c10b0] | (simp only [i64_w, i32_w]; rw [c10b0]) | skip)
        have H' := Aside0.mk H
        clear H
        go_wp2
        go_meet
        case rel => exact ⟨_, (y197), H', ⟨by first | omega | exact Nat.le_refl _⟩, ⟨by (with_reducible repeat (first | apply Kd.R_alloc | apply Kd.R_drewN | apply Kd.R_drew)); exact HO199.out⟩, ⟨by (with_reducible repeat (first | refine blk_drewN ?_ _ | refine blk_drew ?_ | refine blk_alloc ?_ _)); exact BK193.out⟩, ⟨by repeat (first | (with_reducible first | exact HB.out | apply below_alloc | apply pw_below_drewN | apply below_drew1 | refine below_set ?_ GE193.out) | exact HB.out)⟩⟩
    case rest =>
      clear HC3
      try clear c1
      try clear q1
      try clear c2
      try clear p2
      try clear c3
      try clear c10
      try clear c10b0
      try clear c10b1
      try clear c11
      try clear c11b0
      try clear c11b1
      try clear q12
      try clear hcz7_0
      try clear hcz7_1
      try clear hcz7_2
      try clear hcz7_3
      try clear hcz7_4
      try clear hfz7_0
      try clear hfz7_1
      try clear hfz7_2
      try clear hfz7_3
      try clear hfz7_4
      try clear q12
      obtain ⟨kq, x3_2, HA, HJ2, HO_3, BK193, HB⟩ := hcut
      cases kq with
      | zero => exact absurd HA.out (by simp [sledgelaw4_BitsWord.j0])
      | succ kj2 =>
        have H := HA.out
        clear HA
        simp only [sledgelaw4_BitsWord.j0] at H
        have H' := Aside0.mk H
        clear H
        go_wp2
        go_loopg [3, 4] kj2 (fun kq v3 v4 w' => ∃ (x3_2 : List Int) (x4_2 : Int), v4 = .int .i64 x4_2 ∧ Aside0 (sledgelaw4_BitsWord.l0 kq x3_2 x4_2 l0_0 l0_1 l0_2 l0_3 l0_4 = some r) ∧ Aside0 (kq ≤ kj2) ∧ Aside0 (Kd.R (Kd.int .u32) 33 w' w.heap.size (fun _ => True) v3 x3_2) ∧ Aside0 (w'.heap[gb193]? = some (.cells #[(.slice A0_0 l0_0.length c0_0), (.slice A0_1 l0_1.length c0_1), (.slice A0_2 l0_2.length c0_2), (.slice A0_3 l0_3.length c0_3), (.slice A0_4 l0_4.length c0_4)] 32 (0, 0))) ∧ Aside0 (Below w.heap.size w w'))
        case atStart => exact ⟨(x3_2), (0), (by first | rfl | (simp; done) | (simp [*]; done) | (congr 1; rw [Bool.eq_iff_iff]; simp; done)), H', ⟨Nat.le_refl _⟩, ⟨by (with_reducible repeat (first | apply Kd.R_alloc | apply Kd.R_drewN | apply Kd.R_drew)); exact HO_3.out⟩, ⟨by (with_reducible repeat (first | refine blk_drewN ?_ _ | refine blk_drew ?_ | refine blk_alloc ?_ _)); exact BK193.out⟩, ⟨by repeat (first | (with_reducible first | exact HB.out | apply below_alloc | apply pw_below_drewN | apply below_drew1 | refine below_set ?_ GE193.out) | exact HB.out)⟩⟩
        case round =>
          clear H'
          try clear c1
          try clear q1
          try clear c2
          try clear p2
          try clear c3
          try clear c10
          try clear c10b0
          try clear c10b1
          try clear c11
          try clear c11b0
          try clear c11b1
          try clear q12
          try clear hcz7_0
          try clear hcz7_1
          try clear hcz7_2
          try clear hcz7_3
          try clear hcz7_4
          try clear hfz7_0
          try clear hfz7_1
          try clear hfz7_2
          try clear hfz7_3
          try clear hfz7_4
          try clear p2
          try clear q1
          try clear q12
          obtain ⟨x3_2, x4_2, rfl, HA, HK2, HO_3, BK193, HB⟩ := hrel
          cases gk with
          | zero => exact absurd HA.out (by simp [sledgelaw4_BitsWord.l0])
          | succ k2 =>
            have H := HA.out
            clear HA
            simp only [sledgelaw4_BitsWord.l0] at H
            have HC13 := Aside0.mk H
            clear H
            go_upto_region 5 with (fail)
            go_cut [35] (fun v35 wc => ∃ (kq : Nat) (x35_12 : Bool), v35 = .bool x35_12 ∧ Aside0 (sledgelaw4_BitsWord.j2 kq x3_2 x4_2 x35_12 l0_0 l0_1 l0_2 l0_3 l0_4 = some r) ∧ Aside0 (kq ≤ k2) ∧ Aside0 (Kd.R (Kd.int .u32) 33 wc w.heap.size (fun _ => True) u3 x3_2) ∧ Aside0 (wc.heap[gb193]? = some (.cells #[(.slice A0_0 l0_0.length c0_0), (.slice A0_1 l0_1.length c0_1), (.slice A0_2 l0_2.length c0_2), (.slice A0_3 l0_3.length c0_3), (.slice A0_4 l0_4.length c0_4)] 32 (0, 0))) ∧ Aside0 (Below w.heap.size w wc))
            case first =>
              have H := HC13.out
              clear HC13
              by_cases c14 : x4_2 < (l0_0.length : Int)
              · rw [if_pos c14] at H
                have c14b0 : decide (x4_2 < (l0_0.length : Int)) = true := decide_eq_true c14
                clear c14
                (first | rw [c14b0] | (simp only [i64_w, i32_w]; rw [c14b0]) | skip)
                have H' := Aside0.mk H
                clear H
                have hcz15_0 : wr.cell? ⟨gb193, 0, none⟩ = some (.slice A0_0 l0_0.length c0_0) := (blk_cell BK193.out 0).trans rfl
                have hcz15_1 : wr.cell? ⟨gb193, 1, none⟩ = some (.slice A0_1 l0_1.length c0_1) := (blk_cell BK193.out 1).trans rfl
                have hcz15_2 : wr.cell? ⟨gb193, 2, none⟩ = some (.slice A0_2 l0_2.length c0_2) := (blk_cell BK193.out 2).trans rfl
                have hcz15_3 : wr.cell? ⟨gb193, 3, none⟩ = some (.slice A0_3 l0_3.length c0_3) := (blk_cell BK193.out 3).trans rfl
                have hcz15_4 : wr.cell? ⟨gb193, 4, none⟩ = some (.slice A0_4 l0_4.length c0_4) := (blk_cell BK193.out 4).trans rfl
                have hfz15_0 := blk_frozen BK193.out 0
                have hfz15_1 := blk_frozen BK193.out 1
                have hfz15_2 := blk_frozen BK193.out 2
                have hfz15_3 := blk_frozen BK193.out 3
                have hfz15_4 := blk_frozen BK193.out 4
                go_wp2
                go_meet
                case rel => exact ⟨_, (decide (x4_2 < 20)), (by first | rfl | (simp; done) | (simp [*]; done) | (congr 1; rw [Bool.eq_iff_iff]; simp; done)), H', ⟨by have := HJ2.out; have := HK2.out; first | omega | exact Nat.le_refl _⟩, ⟨by (with_reducible repeat (first | apply Kd.R_alloc | apply Kd.R_drewN | apply Kd.R_drew)); exact HO_3.out⟩, ⟨by (with_reducible repeat (first | refine blk_drewN ?_ _ | refine blk_drew ?_ | refine blk_alloc ?_ _)); exact BK193.out⟩, ⟨by repeat (first | (with_reducible first | exact HB.out | apply below_alloc | apply pw_below_drewN | apply below_drew1 | refine below_set ?_ GE193.out) | exact HB.out)⟩⟩
              · rw [if_neg c14] at H
                have c14b0 : decide (x4_2 < (l0_0.length : Int)) = false := decide_eq_false c14
                clear c14
                (first | rw [c14b0] | (simp only [i64_w, i32_w]; rw [c14b0]) | skip)
                have H' := Aside0.mk H
                clear H
                have hcz16_0 : wr.cell? ⟨gb193, 0, none⟩ = some (.slice A0_0 l0_0.length c0_0) := (blk_cell BK193.out 0).trans rfl
                have hcz16_1 : wr.cell? ⟨gb193, 1, none⟩ = some (.slice A0_1 l0_1.length c0_1) := (blk_cell BK193.out 1).trans rfl
                have hcz16_2 : wr.cell? ⟨gb193, 2, none⟩ = some (.slice A0_2 l0_2.length c0_2) := (blk_cell BK193.out 2).trans rfl
                have hcz16_3 : wr.cell? ⟨gb193, 3, none⟩ = some (.slice A0_3 l0_3.length c0_3) := (blk_cell BK193.out 3).trans rfl
                have hcz16_4 : wr.cell? ⟨gb193, 4, none⟩ = some (.slice A0_4 l0_4.length c0_4) := (blk_cell BK193.out 4).trans rfl
                have hfz16_0 := blk_frozen BK193.out 0
                have hfz16_1 := blk_frozen BK193.out 1
                have hfz16_2 := blk_frozen BK193.out 2
                have hfz16_3 := blk_frozen BK193.out 3
                have hfz16_4 := blk_frozen BK193.out 4
                go_wp2
                go_meet
                case rel => exact ⟨_, (false), (by first | rfl | (simp; done) | (simp [*]; done) | (congr 1; rw [Bool.eq_iff_iff]; simp; done)), H', ⟨by have := HJ2.out; have := HK2.out; first | omega | exact Nat.le_refl _⟩, ⟨by (with_reducible repeat (first | apply Kd.R_alloc | apply Kd.R_drewN | apply Kd.R_drew)); exact HO_3.out⟩, ⟨by (with_reducible repeat (first | refine blk_drewN ?_ _ | refine blk_drew ?_ | refine blk_alloc ?_ _)); exact BK193.out⟩, ⟨by repeat (first | (with_reducible first | exact HB.out | apply below_alloc | apply pw_below_drewN | apply below_drew1 | refine below_set ?_ GE193.out) | exact HB.out)⟩⟩
            case rest =>
              clear HC13
              try clear c1
              try clear q1
              try clear c2
              try clear p2
              try clear c3
              try clear c10
              try clear c10b0
              try clear c10b1
              try clear c11
              try clear c11b0
              try clear c11b1
              try clear q12
              try clear c14
              try clear c14b0
              try clear hcz15_0
              try clear hcz15_1
              try clear hcz15_2
              try clear hcz15_3
              try clear hcz15_4
              try clear hcz16_0
              try clear hcz16_1
              try clear hcz16_2
              try clear hcz16_3
              try clear hcz16_4
              try clear hcz7_0
              try clear hcz7_1
              try clear hcz7_2
              try clear hcz7_3
              try clear hcz7_4
              try clear hfz15_0
              try clear hfz15_1
              try clear hfz15_2
              try clear hfz15_3
              try clear hfz15_4
              try clear hfz16_0
              try clear hfz16_1
              try clear hfz16_2
              try clear hfz16_3
              try clear hfz16_4
              try clear hfz7_0
              try clear hfz7_1
              try clear hfz7_2
              try clear hfz7_3
              try clear hfz7_4
              try clear p2
              try clear q1
              try clear q12
              obtain ⟨kq, x35_12, rfl, HA, HJ12, HO_3, BK193, HB⟩ := hcut
              cases kq with
              | zero => exact absurd HA.out (by simp [sledgelaw4_BitsWord.j2])
              | succ kj12 =>
                have H := HA.out
                clear HA
                simp only [sledgelaw4_BitsWord.j2] at H
                by_cases c17 : x35_12 = true
                · subst c17
                  have H1 : (if 0 ≤ x4_2 then (if x4_2 < (l0_0.length : Int) then ((bits_Word.f kj12 ((rd_T35 l0_0 x4_2).f0) ((rd_T35 l0_0 x4_2).f1) ((rd_T35 l0_0 x4_2).f2) ((rd_T35 l0_0 x4_2).f3) ((rd_T35 l0_0 x4_2).f4) ((rd_T35 l0_0 x4_2).f5)).bind fun bt205 => ((sledgeref3_Ins.f kj12 ((rd_T35 l0_0 x4_2).f0) ((rd_T35 l0_0 x4_2).f1) ((rd_T35 l0_0 x4_2).f2) ((rd_T35 l0_0 x4_2).f3) ((rd_T35 l0_0 x4_2).f4) ((rd_T35 l0_0 x4_2).f5)).bind fun t207 => (if t207 = true then (if ((rd_T35 l0_0 x4_2).f5).toList = ([] : List UInt8) then ((sledgeref3_Word.f kj12 ((rd_T35 l0_0 x4_2).f0) ((rd_T35 l0_0 x4_2).f1) ((rd_T35 l0_0 x4_2).f2) ((rd_T35 l0_0 x4_2).f3) ((rd_T35 l0_0 x4_2).f4) ((rd_T35 l0_0 x4_2).f5)).bind fun t208 => (sledgelaw4_BitsWord.l1 kj12 x3_2 x4_2 bt205.1 bt205.2 0 t208 0 l0_0 l0_1 l0_2 l0_3 l0_4)) else (sledgelaw4_BitsWord.j4 kj12 x3_2 x4_2 bt205.1 bt205.2 6 0 l0_0 l0_1 l0_2 l0_3 l0_4)) else (sledgelaw4_BitsWord.j4 kj12 x3_2 x4_2 bt205.1 bt205.2 1 0 l0_0 l0_1 l0_2 l0_3 l0_4)))) else (none)) else (none)) = some r := by rw [if_pos rfl] at H; exact H
                  clear H
                  have H := H1
                  clear H1
                  by_cases c18 : 0 ≤ x4_2
                  · rw [if_pos c18] at H
                    have c18b0 : decide (0 ≤ x4_2) = true := decide_eq_true c18
                    clear c18
                    by_cases c19 : x4_2 < (l0_0.length : Int)
                    · rw [if_pos c19] at H
                      have c19b0 : decide (x4_2 < (l0_0.length : Int)) = true := decide_eq_true c19
                      clear c19
                      replace H := Option.bind_eq_some_iff.mp H
                      obtain ⟨⟨t205, t206⟩, A200, H⟩ := H
                      replace H : ((sledgeref3_Ins.f kj12 ((rd_T35 l0_0 x4_2).f0) ((rd_T35 l0_0 x4_2).f1) ((rd_T35 l0_0 x4_2).f2) ((rd_T35 l0_0 x4_2).f3) ((rd_T35 l0_0 x4_2).f4) ((rd_T35 l0_0 x4_2).f5)).bind fun t207 => (if t207 = true then (if ((rd_T35 l0_0 x4_2).f5).toList = ([] : List UInt8) then ((sledgeref3_Word.f kj12 ((rd_T35 l0_0 x4_2).f0) ((rd_T35 l0_0 x4_2).f1) ((rd_T35 l0_0 x4_2).f2) ((rd_T35 l0_0 x4_2).f3) ((rd_T35 l0_0 x4_2).f4) ((rd_T35 l0_0 x4_2).f5)).bind fun t208 => (sledgelaw4_BitsWord.l1 kj12 x3_2 x4_2 t205 t206 0 t208 0 l0_0 l0_1 l0_2 l0_3 l0_4)) else (sledgelaw4_BitsWord.j4 kj12 x3_2 x4_2 t205 t206 6 0 l0_0 l0_1 l0_2 l0_3 l0_4)) else (sledgelaw4_BitsWord.j4 kj12 x3_2 x4_2 t205 t206 1 0 l0_0 l0_1 l0_2 l0_3 l0_4))) = some r := H
                      have A20 := Aside0.mk A200
                      clear A200
                      replace H := Option.bind_eq_some_iff.mp H
                      obtain ⟨t207, A210, H⟩ := H
                      replace H : (if t207 = true then (if ((rd_T35 l0_0 x4_2).f5).toList = ([] : List UInt8) then ((sledgeref3_Word.f kj12 ((rd_T35 l0_0 x4_2).f0) ((rd_T35 l0_0 x4_2).f1) ((rd_T35 l0_0 x4_2).f2) ((rd_T35 l0_0 x4_2).f3) ((rd_T35 l0_0 x4_2).f4) ((rd_T35 l0_0 x4_2).f5)).bind fun t208 => (sledgelaw4_BitsWord.l1 kj12 x3_2 x4_2 t205 t206 0 t208 0 l0_0 l0_1 l0_2 l0_3 l0_4)) else (sledgelaw4_BitsWord.j4 kj12 x3_2 x4_2 t205 t206 6 0 l0_0 l0_1 l0_2 l0_3 l0_4)) else (sledgelaw4_BitsWord.j4 kj12 x3_2 x4_2 t205 t206 1 0 l0_0 l0_1 l0_2 l0_3 l0_4)) = some r := H
                      have A21 := Aside0.mk A210
                      clear A210
                      have HC22 := Aside0.mk H
                      clear H
                      have hcz23_0 : wc.cell? ⟨gb193, 0, none⟩ = some (.slice A0_0 l0_0.length c0_0) := (blk_cell BK193.out 0).trans rfl
                      have hcz23_1 : wc.cell? ⟨gb193, 1, none⟩ = some (.slice A0_1 l0_1.length c0_1) := (blk_cell BK193.out 1).trans rfl
                      have hcz23_2 : wc.cell? ⟨gb193, 2, none⟩ = some (.slice A0_2 l0_2.length c0_2) := (blk_cell BK193.out 2).trans rfl
                      have hcz23_3 : wc.cell? ⟨gb193, 3, none⟩ = some (.slice A0_3 l0_3.length c0_3) := (blk_cell BK193.out 3).trans rfl
                      have hcz23_4 : wc.cell? ⟨gb193, 4, none⟩ = some (.slice A0_4 l0_4.length c0_4) := (blk_cell BK193.out 4).trans rfl
                      have hfz23_0 := blk_frozen BK193.out 0
                      have hfz23_1 := blk_frozen BK193.out 1
                      have hfz23_2 := blk_frozen BK193.out 2
                      have hfz23_3 := blk_frozen BK193.out 3
                      have hfz23_4 := blk_frozen BK193.out 4
                      have p203 : 0 ≤ (x4_2 : Int) := of_decide_eq_true (by first | (with_reducible assumption) | assumption)
                      have q203 : x4_2 < (l0_0.length : Int) := of_decide_eq_true (by first | (with_reducible assumption) | assumption)
                      obtain ⟨ad203, e203, hx203_0, hx203_1, hx203_2, hx203_3, hx203_4, hx203_5⟩ := at_T35 HR0_0.out x4_2 p203 q203
                      cases e203
                      replace hx203_0 := (HB.out.cell (World.block_lt_of_cell? w _ hx203_0)).trans hx203_0
                      replace hx203_1 := (HB.out.cell (World.block_lt_of_cell? w _ hx203_1)).trans hx203_1
                      replace hx203_2 := (HB.out.cell (World.block_lt_of_cell? w _ hx203_2)).trans hx203_2
                      replace hx203_3 := (HB.out.cell (World.block_lt_of_cell? w _ hx203_3)).trans hx203_3
                      replace hx203_4 := (HB.out.cell (World.block_lt_of_cell? w _ hx203_4)).trans hx203_4
                      replace hx203_5 := (HB.out.cell (World.block_lt_of_cell? w _ hx203_5)).trans hx203_5
                      replace p203 := eq_true p203
                      replace q203 := eq_true q203
                      go_upto_if 50 with (first | ((with_reducible refine gate_dst (N := 5) rfl ?_); refine box_event ?hg (N := 5) ?hd (cs := #[.int .i64 0, .int .i64 0, .int .i64 0, .int .i64 0, .int .i64 0, .string (⟨#[]⟩ : ByteArray)]) (t := 35) ?hr ?_; (case hd => rfl); (case hg => rfl); (case hr => first | (go_simp; done) | (go_simp; rfl)); intro gb204 hg w24 hbox hb; have n0_ := Aside0.mk (Kd.R_below (by (with_reducible repeat (first | apply Kd.R_alloc | apply Kd.R_drewN | apply Kd.R_drew)); exact HO_3.out) hb); have n1_ := Aside0.mk (blk_below (g := gb193) (o := .cells #[.slice (some ad203) l0_0.length c0_0, .slice A0_1 l0_1.length c0_1, .slice A0_2 l0_2.length c0_2, .slice A0_3 l0_3.length c0_3, .slice A0_4 l0_4.length c0_4] 32 (0, 0)) (by (with_reducible repeat (first | refine blk_drewN ?_ _ | refine blk_drew ?_ | refine blk_alloc ?_ _)); exact BK193.out) hb); have n2_ := Aside0.mk (below_step (by repeat (first | (with_reducible first | exact HB.out | apply below_alloc | apply pw_below_drewN | apply below_drew1 | refine below_set ?_ GE193.out) | exact HB.out)) hb); have n3_ := Aside0.mk (hbox); have n4_ := Aside0.mk ((by rw [hg]; exact (below_size (by repeat (first | (with_reducible first | exact HB.out | apply below_alloc | apply pw_below_drewN | apply below_drew1 | refine below_set ?_ GE193.out) | exact HB.out))) : w.heap.size ≤ gb204)); have n5_ := Aside0.mk ((by rw [hg]; exact (below_size (by repeat (first | (with_reducible first | exact HB.out | apply below_alloc | apply pw_below_drewN | apply below_drew1 | refine below_set ?_ GE193.out) | exact HB.out))) : w.heap.size ≤ gb204)); have n6_ := Aside0.mk ((by rw [hg]; exact Nat.ne_of_lt (blk_lt (g := gb193) (o := .cells #[.slice (some ad203) l0_0.length c0_0, .slice A0_1 l0_1.length c0_1, .slice A0_2 l0_2.length c0_2, .slice A0_3 l0_3.length c0_3, .slice A0_4 l0_4.length c0_4] 32 (0, 0)) (by (with_reducible repeat (first | refine blk_drewN ?_ _ | refine blk_drew ?_ | refine blk_alloc ?_ _)); exact BK193.out)) : gb193 ≠ gb204)); have n7_ := Aside0.mk ((by rw [hg]; exact Nat.ne_of_gt (blk_lt (g := gb193) (o := .cells #[.slice (some ad203) l0_0.length c0_0, .slice A0_1 l0_1.length c0_1, .slice A0_2 l0_2.length c0_2, .slice A0_3 l0_3.length c0_3, .slice A0_4 l0_4.length c0_4] 32 (0, 0)) (by (with_reducible repeat (first | refine blk_drewN ?_ _ | refine blk_drew ?_ | refine blk_alloc ?_ _)); exact BK193.out)) : gb204 ≠ gb193)); clear HO_3; clear BK193; clear HB; have HO_3 := n0_; have BK193 := n1_; have HB := n2_; have BK204 := n3_; have GW204 := n4_; have GE204 := n5_; have NB193_204 := n6_; have NB204_193 := n7_; clear n0_ n1_ n2_ n3_ n4_ n5_ n6_ n7_; clear hb hbox hg; have hnb25 := NB204_193.out; have hnc25 := NB193_204.out; have hcz26_0 : w24.cell? ⟨gb204, 0, none⟩ = some (.int .i64 0) := (blk_cell BK204.out 0).trans rfl; have hcz26_1 : w24.cell? ⟨gb204, 1, none⟩ = some (.int .i64 0) := (blk_cell BK204.out 1).trans rfl; have hcz26_2 : w24.cell? ⟨gb204, 2, none⟩ = some (.int .i64 0) := (blk_cell BK204.out 2).trans rfl; have hcz26_3 : w24.cell? ⟨gb204, 3, none⟩ = some (.int .i64 0) := (blk_cell BK204.out 3).trans rfl; have hcz26_4 : w24.cell? ⟨gb204, 4, none⟩ = some (.int .i64 0) := (blk_cell BK204.out 4).trans rfl; have hcz26_5 : w24.cell? ⟨gb204, 5, none⟩ = some (.string (⟨#[]⟩ : ByteArray)) := (blk_cell BK204.out 5).trans rfl; have hfz26_0 := blk_frozen BK204.out 0; have hfz26_1 := blk_frozen BK204.out 1; have hfz26_2 := blk_frozen BK204.out 2; have hfz26_3 := blk_frozen BK204.out 3; have hfz26_4 := blk_frozen BK204.out 4; have hfz26_5 := blk_frozen BK204.out 5) | ((with_reducible refine gate_callee (f := 8) rfl ?_); refine goesL_ (some 46) rfl rfl Try.func8 (by kernel_rfl) rfl #[.agg #[.int .i64 ((rd_T35 l0_0 x4_2).f0), .int .i64 ((rd_T35 l0_0 x4_2).f1), .int .i64 ((rd_T35 l0_0 x4_2).f2), .int .i64 ((rd_T35 l0_0 x4_2).f3), .int .i64 ((rd_T35 l0_0 x4_2).f4), .string ((rd_T35 l0_0 x4_2).f5)]] rfl (by (try simp only [List.map_toArray, List.map_cons, List.map_nil]); first | done | rfl | (simp only [List.length_drop, List.length_take]; rfl)) ?_; (with_reducible refine (bits_Word.calls kj12 ((rd_T35 l0_0 x4_2).f0) ((rd_T35 l0_0 x4_2).f1) ((rd_T35 l0_0 x4_2).f2) ((rd_T35 l0_0 x4_2).f3) ((rd_T35 l0_0 x4_2).f4) ((rd_T35 l0_0 x4_2).f5) t205 t206 _ A20.out).mono ?_); rintro e w27 ⟨rfl, hb⟩; refine ⟨_, rfl, ?_⟩; have n0_ := Aside0.mk (Kd.R_below (by (with_reducible repeat (first | apply Kd.R_alloc | apply Kd.R_drewN | apply Kd.R_drew)); exact (Kd.R_mono (Kd.R_far (p := ⟨gb204, 5, none⟩) (Kd.R_far (p := ⟨gb204, 4, none⟩) (Kd.R_far (p := ⟨gb204, 3, none⟩) (Kd.R_far (p := ⟨gb204, 2, none⟩) (Kd.R_far (p := ⟨gb204, 1, none⟩) (Kd.R_far (p := ⟨gb204, 0, none⟩) (Kd.R_types HO_3.out BK204.out (by decide)) (fun _ hk => hk.2) (.int .i64 ((rd_T35 l0_0 x4_2).f0))) (fun _ hk => hk.2) (.int .i64 ((rd_T35 l0_0 x4_2).f1))) (fun _ hk => hk.2) (.int .i64 ((rd_T35 l0_0 x4_2).f2))) (fun _ hk => hk.2) (.int .i64 ((rd_T35 l0_0 x4_2).f3))) (fun _ hk => hk.2) (.int .i64 ((rd_T35 l0_0 x4_2).f4))) (fun _ hk => hk.2) (.string ((rd_T35 l0_0 x4_2).f5))) (fun _ h_ => h_.1))) hb); have n1_ := Aside0.mk (blk_below (g := gb193) (o := .cells #[.slice (some ad203) l0_0.length c0_0, .slice A0_1 l0_1.length c0_1, .slice A0_2 l0_2.length c0_2, .slice A0_3 l0_3.length c0_3, .slice A0_4 l0_4.length c0_4] 32 (0, 0)) (by (with_reducible repeat (first | refine blk_drewN ?_ _ | refine blk_drew ?_ | refine blk_alloc ?_ _)); refine blk_far ?_ NB193_204.out _; (with_reducible repeat (first | refine blk_drewN ?_ _ | refine blk_drew ?_ | refine blk_alloc ?_ _)); refine blk_far ?_ NB193_204.out _; (with_reducible repeat (first | refine blk_drewN ?_ _ | refine blk_drew ?_ | refine blk_alloc ?_ _)); refine blk_far ?_ NB193_204.out _; (with_reducible repeat (first | refine blk_drewN ?_ _ | refine blk_drew ?_ | refine blk_alloc ?_ _)); refine blk_far ?_ NB193_204.out _; (with_reducible repeat (first | refine blk_drewN ?_ _ | refine blk_drew ?_ | refine blk_alloc ?_ _)); refine blk_far ?_ NB193_204.out _; (with_reducible repeat (first | refine blk_drewN ?_ _ | refine blk_drew ?_ | refine blk_alloc ?_ _)); refine blk_far ?_ NB193_204.out _; (with_reducible repeat (first | refine blk_drewN ?_ _ | refine blk_drew ?_ | refine blk_alloc ?_ _)); exact BK193.out) hb); have n2_ := Aside0.mk (blk_below (g := gb204) (o := .cells #[.int .i64 ((rd_T35 l0_0 x4_2).f0), .int .i64 ((rd_T35 l0_0 x4_2).f1), .int .i64 ((rd_T35 l0_0 x4_2).f2), .int .i64 ((rd_T35 l0_0 x4_2).f3), .int .i64 ((rd_T35 l0_0 x4_2).f4), .string ((rd_T35 l0_0 x4_2).f5)] 35 (0, 0)) (by (with_reducible repeat (first | refine blk_drewN ?_ _ | refine blk_drew ?_ | refine blk_alloc ?_ _)); refine blk_put (cs := #[.int .i64 ((rd_T35 l0_0 x4_2).f0), .int .i64 ((rd_T35 l0_0 x4_2).f1), .int .i64 ((rd_T35 l0_0 x4_2).f2), .int .i64 ((rd_T35 l0_0 x4_2).f3), .int .i64 ((rd_T35 l0_0 x4_2).f4), .string (⟨#[]⟩ : ByteArray)]) ?_ 5 _ rfl; (with_reducible repeat (first | refine blk_drewN ?_ _ | refine blk_drew ?_ | refine blk_alloc ?_ _)); refine blk_put (cs := #[.int .i64 ((rd_T35 l0_0 x4_2).f0), .int .i64 ((rd_T35 l0_0 x4_2).f1), .int .i64 ((rd_T35 l0_0 x4_2).f2), .int .i64 ((rd_T35 l0_0 x4_2).f3), .int .i64 0, .string (⟨#[]⟩ : ByteArray)]) ?_ 4 _ rfl; (with_reducible repeat (first | refine blk_drewN ?_ _ | refine blk_drew ?_ | refine blk_alloc ?_ _)); refine blk_put (cs := #[.int .i64 ((rd_T35 l0_0 x4_2).f0), .int .i64 ((rd_T35 l0_0 x4_2).f1), .int .i64 ((rd_T35 l0_0 x4_2).f2), .int .i64 0, .int .i64 0, .string (⟨#[]⟩ : ByteArray)]) ?_ 3 _ rfl; (with_reducible repeat (first | refine blk_drewN ?_ _ | refine blk_drew ?_ | refine blk_alloc ?_ _)); refine blk_put (cs := #[.int .i64 ((rd_T35 l0_0 x4_2).f0), .int .i64 ((rd_T35 l0_0 x4_2).f1), .int .i64 0, .int .i64 0, .int .i64 0, .string (⟨#[]⟩ : ByteArray)]) ?_ 2 _ rfl; (with_reducible repeat (first | refine blk_drewN ?_ _ | refine blk_drew ?_ | refine blk_alloc ?_ _)); refine blk_put (cs := #[.int .i64 ((rd_T35 l0_0 x4_2).f0), .int .i64 0, .int .i64 0, .int .i64 0, .int .i64 0, .string (⟨#[]⟩ : ByteArray)]) ?_ 1 _ rfl; (with_reducible repeat (first | refine blk_drewN ?_ _ | refine blk_drew ?_ | refine blk_alloc ?_ _)); refine blk_put (cs := #[.int .i64 0, .int .i64 0, .int .i64 0, .int .i64 0, .int .i64 0, .string (⟨#[]⟩ : ByteArray)]) ?_ 0 _ rfl; (with_reducible repeat (first | refine blk_drewN ?_ _ | refine blk_drew ?_ | refine blk_alloc ?_ _)); exact BK204.out) hb); have n3_ := Aside0.mk (below_step (by repeat (first | (with_reducible first | exact HB.out | apply below_alloc | apply pw_below_drewN | apply below_drew1 | refine below_set ?_ GE193.out | refine below_set ?_ GE204.out) | exact HB.out)) hb); clear HO_3; clear BK193; clear BK204; clear HB; have HO_3 := n0_; have BK193 := n1_; have BK204 := n2_; have HB := n3_; clear n0_ n1_ n2_ n3_; (try clear hb); (try clear hb2); (try clear hk); (try clear hi); have hcz28_0 : w27.cell? ⟨gb204, 0, none⟩ = some (.int .i64 ((rd_T35 l0_0 x4_2).f0)) := (blk_cell BK204.out 0).trans rfl; have hcz28_1 : w27.cell? ⟨gb204, 1, none⟩ = some (.int .i64 ((rd_T35 l0_0 x4_2).f1)) := (blk_cell BK204.out 1).trans rfl; have hcz28_2 : w27.cell? ⟨gb204, 2, none⟩ = some (.int .i64 ((rd_T35 l0_0 x4_2).f2)) := (blk_cell BK204.out 2).trans rfl; have hcz28_3 : w27.cell? ⟨gb204, 3, none⟩ = some (.int .i64 ((rd_T35 l0_0 x4_2).f3)) := (blk_cell BK204.out 3).trans rfl; have hcz28_4 : w27.cell? ⟨gb204, 4, none⟩ = some (.int .i64 ((rd_T35 l0_0 x4_2).f4)) := (blk_cell BK204.out 4).trans rfl; have hcz28_5 : w27.cell? ⟨gb204, 5, none⟩ = some (.string ((rd_T35 l0_0 x4_2).f5)) := (blk_cell BK204.out 5).trans rfl; have hfz28_0 := blk_frozen BK204.out 0; have hfz28_1 := blk_frozen BK204.out 1; have hfz28_2 := blk_frozen BK204.out 2; have hfz28_3 := blk_frozen BK204.out 3; have hfz28_4 := blk_frozen BK204.out 4; have hfz28_5 := blk_frozen BK204.out 5) | ((with_reducible refine gate_callee (f := 9) rfl ?_); refine goesL_ (some 50) rfl rfl Try.func9 (by kernel_rfl) rfl #[.agg #[.int .i64 ((rd_T35 l0_0 x4_2).f0), .int .i64 ((rd_T35 l0_0 x4_2).f1), .int .i64 ((rd_T35 l0_0 x4_2).f2), .int .i64 ((rd_T35 l0_0 x4_2).f3), .int .i64 ((rd_T35 l0_0 x4_2).f4), .string ((rd_T35 l0_0 x4_2).f5)]] rfl (by (try simp only [List.map_toArray, List.map_cons, List.map_nil]); first | done | rfl | (simp only [List.length_drop, List.length_take]; rfl)) ?_; (with_reducible refine (sledgeref3_Ins.calls kj12 ((rd_T35 l0_0 x4_2).f0) ((rd_T35 l0_0 x4_2).f1) ((rd_T35 l0_0 x4_2).f2) ((rd_T35 l0_0 x4_2).f3) ((rd_T35 l0_0 x4_2).f4) ((rd_T35 l0_0 x4_2).f5) t207 _ A21.out).mono ?_); rintro e w29 ⟨rfl, hb⟩; refine ⟨_, rfl, ?_⟩; have n0_ := Aside0.mk (Kd.R_below (by (with_reducible repeat (first | apply Kd.R_alloc | apply Kd.R_drewN | apply Kd.R_drew)); exact HO_3.out) hb); have n1_ := Aside0.mk (blk_below (g := gb193) (o := .cells #[.slice (some ad203) l0_0.length c0_0, .slice A0_1 l0_1.length c0_1, .slice A0_2 l0_2.length c0_2, .slice A0_3 l0_3.length c0_3, .slice A0_4 l0_4.length c0_4] 32 (0, 0)) (by (with_reducible repeat (first | refine blk_drewN ?_ _ | refine blk_drew ?_ | refine blk_alloc ?_ _)); exact BK193.out) hb); have n2_ := Aside0.mk (blk_below (g := gb204) (o := .cells #[.int .i64 ((rd_T35 l0_0 x4_2).f0), .int .i64 ((rd_T35 l0_0 x4_2).f1), .int .i64 ((rd_T35 l0_0 x4_2).f2), .int .i64 ((rd_T35 l0_0 x4_2).f3), .int .i64 ((rd_T35 l0_0 x4_2).f4), .string ((rd_T35 l0_0 x4_2).f5)] 35 (0, 0)) (by (with_reducible repeat (first | refine blk_drewN ?_ _ | refine blk_drew ?_ | refine blk_alloc ?_ _)); exact BK204.out) hb); have n3_ := Aside0.mk (below_step (by repeat (first | (with_reducible first | exact HB.out | apply below_alloc | apply pw_below_drewN | apply below_drew1 | refine below_set ?_ GE193.out | refine below_set ?_ GE204.out) | exact HB.out)) hb); clear HO_3; clear BK193; clear BK204; clear HB; have HO_3 := n0_; have BK193 := n1_; have BK204 := n2_; have HB := n3_; clear n0_ n1_ n2_ n3_; (try clear hb); (try clear hb2); (try clear hk); (try clear hi)))
                      (try simp only [Act.put, List.setIfInBounds_toArray, List.set_cons_zero, List.set_cons_succ])
                      go_cut [3, 8, 9] (fun v3 v8 v9 wc => ∃ (kq : Nat) (x3_21 : List Int) (x8_21 : Int) (x9_21 : Int), v8 = .int .i64 x8_21 ∧ v9 = .int .u32 x9_21 ∧ Aside0 (sledgelaw4_BitsWord.j4 kq x3_21 x4_2 t205 t206 x8_21 x9_21 l0_0 l0_1 l0_2 l0_3 l0_4 = some r) ∧ Aside0 (kq ≤ kj12) ∧ Aside0 (Kd.R (Kd.int .u32) 33 wc w.heap.size (fun _ => True) v3 x3_21) ∧ Aside0 (wc.heap[gb193]? = some (.cells #[(.slice (some ad203) l0_0.length c0_0), (.slice A0_1 l0_1.length c0_1), (.slice A0_2 l0_2.length c0_2), (.slice A0_3 l0_3.length c0_3), (.slice A0_4 l0_4.length c0_4)] 32 (0, 0))) ∧ Aside0 (wc.heap[gb204]? = some (.cells #[.int .i64 ((rd_T35 l0_0 x4_2).f0), .int .i64 ((rd_T35 l0_0 x4_2).f1), .int .i64 ((rd_T35 l0_0 x4_2).f2), .int .i64 ((rd_T35 l0_0 x4_2).f3), .int .i64 ((rd_T35 l0_0 x4_2).f4), .string ((rd_T35 l0_0 x4_2).f5)] 35 (0, 0))) ∧ Aside0 (Below w.heap.size w wc))
                      case first =>
                        have H := HC22.out
                        clear HC22
                        by_cases c30 : t207 = true
                        · subst c30
                          have H1 : (if ((rd_T35 l0_0 x4_2).f5).toList = ([] : List UInt8) then ((sledgeref3_Word.f kj12 ((rd_T35 l0_0 x4_2).f0) ((rd_T35 l0_0 x4_2).f1) ((rd_T35 l0_0 x4_2).f2) ((rd_T35 l0_0 x4_2).f3) ((rd_T35 l0_0 x4_2).f4) ((rd_T35 l0_0 x4_2).f5)).bind fun t208 => (sledgelaw4_BitsWord.l1 kj12 x3_2 x4_2 t205 t206 0 t208 0 l0_0 l0_1 l0_2 l0_3 l0_4)) else (sledgelaw4_BitsWord.j4 kj12 x3_2 x4_2 t205 t206 6 0 l0_0 l0_1 l0_2 l0_3 l0_4)) = some r := by rw [if_pos rfl] at H; exact H
                          clear H
                          have H := H1
                          clear H1
                          by_cases c31 : ((rd_T35 l0_0 x4_2).f5).toList = ([] : List UInt8)
                          · rw [if_pos c31] at H
                            have c31b0 : (((rd_T35 l0_0 x4_2).f5).toList == ([] : List UInt8)) = true := beq_iff_eq.mpr c31
                            have c31b1 : (((rd_T35 l0_0 x4_2).f5).toList != ([] : List UInt8)) = false := bne_eq_false_iff_eq.mpr c31
                            clear c31
                            (first | rw [c31b0] | (simp only [i64_w, i32_w]; rw [c31b0]) | skip)
                            replace H := Option.bind_eq_some_iff.mp H
                            obtain ⟨t208, A320, H⟩ := H
                            replace H : (sledgelaw4_BitsWord.l1 kj12 x3_2 x4_2 t205 t206 0 t208 0 l0_0 l0_1 l0_2 l0_3 l0_4) = some r := H
                            have A32 := Aside0.mk A320
                            clear A320
                            have H' := Aside0.mk H
                            clear H
                            have hnb33 := NB204_193.out
                            have hnc33 := NB193_204.out
                            have hcz34_0 : w29.cell? ⟨gb204, 0, none⟩ = some (.int .i64 ((rd_T35 l0_0 x4_2).f0)) := (blk_cell BK204.out 0).trans rfl
                            have hcz34_1 : w29.cell? ⟨gb204, 1, none⟩ = some (.int .i64 ((rd_T35 l0_0 x4_2).f1)) := (blk_cell BK204.out 1).trans rfl
                            have hcz34_2 : w29.cell? ⟨gb204, 2, none⟩ = some (.int .i64 ((rd_T35 l0_0 x4_2).f2)) := (blk_cell BK204.out 2).trans rfl
                            have hcz34_3 : w29.cell? ⟨gb204, 3, none⟩ = some (.int .i64 ((rd_T35 l0_0 x4_2).f3)) := (blk_cell BK204.out 3).trans rfl
                            have hcz34_4 : w29.cell? ⟨gb204, 4, none⟩ = some (.int .i64 ((rd_T35 l0_0 x4_2).f4)) := (blk_cell BK204.out 4).trans rfl
                            have hcz34_5 : w29.cell? ⟨gb204, 5, none⟩ = some (.string ((rd_T35 l0_0 x4_2).f5)) := (blk_cell BK204.out 5).trans rfl
                            have hfz34_0 := blk_frozen BK204.out 0
                            have hfz34_1 := blk_frozen BK204.out 1
                            have hfz34_2 := blk_frozen BK204.out 2
                            have hfz34_3 := blk_frozen BK204.out 3
                            have hfz34_4 := blk_frozen BK204.out 4
                            have hfz34_5 := blk_frozen BK204.out 5
                            go_wp2_with (first | ((with_reducible refine gate_callee (f := 10) rfl ?_); refine goesL_ (some 55) rfl rfl Try.func10 (by kernel_rfl) rfl #[.agg #[.int .i64 ((rd_T35 l0_0 x4_2).f0), .int .i64 ((rd_T35 l0_0 x4_2).f1), .int .i64 ((rd_T35 l0_0 x4_2).f2), .int .i64 ((rd_T35 l0_0 x4_2).f3), .int .i64 ((rd_T35 l0_0 x4_2).f4), .string ((rd_T35 l0_0 x4_2).f5)]] rfl (by (try simp only [List.map_toArray, List.map_cons, List.map_nil]); first | done | rfl | (simp only [List.length_drop, List.length_take]; rfl)) ?_; (with_reducible refine (sledgeref3_Word.calls kj12 ((rd_T35 l0_0 x4_2).f0) ((rd_T35 l0_0 x4_2).f1) ((rd_T35 l0_0 x4_2).f2) ((rd_T35 l0_0 x4_2).f3) ((rd_T35 l0_0 x4_2).f4) ((rd_T35 l0_0 x4_2).f5) t208 _ A32.out).mono ?_); rintro e w35 ⟨rfl, hb⟩; refine ⟨_, rfl, ?_⟩; have n0_ := Aside0.mk (Kd.R_below (by (with_reducible repeat (first | apply Kd.R_alloc | apply Kd.R_drewN | apply Kd.R_drew)); exact HO_3.out) hb); have n1_ := Aside0.mk (blk_below (g := gb193) (o := .cells #[.slice (some ad203) l0_0.length c0_0, .slice A0_1 l0_1.length c0_1, .slice A0_2 l0_2.length c0_2, .slice A0_3 l0_3.length c0_3, .slice A0_4 l0_4.length c0_4] 32 (0, 0)) (by (with_reducible repeat (first | refine blk_drewN ?_ _ | refine blk_drew ?_ | refine blk_alloc ?_ _)); exact BK193.out) hb); have n2_ := Aside0.mk (blk_below (g := gb204) (o := .cells #[.int .i64 ((rd_T35 l0_0 x4_2).f0), .int .i64 ((rd_T35 l0_0 x4_2).f1), .int .i64 ((rd_T35 l0_0 x4_2).f2), .int .i64 ((rd_T35 l0_0 x4_2).f3), .int .i64 ((rd_T35 l0_0 x4_2).f4), .string ((rd_T35 l0_0 x4_2).f5)] 35 (0, 0)) (by (with_reducible repeat (first | refine blk_drewN ?_ _ | refine blk_drew ?_ | refine blk_alloc ?_ _)); exact BK204.out) hb); have n3_ := Aside0.mk (below_step (by repeat (first | (with_reducible first | exact HB.out | apply below_alloc | apply pw_below_drewN | apply below_drew1 | refine below_set ?_ GE193.out | refine below_set ?_ GE204.out) | exact HB.out)) hb); clear HO_3; clear BK193; clear BK204; clear HB; have HO_3 := n0_; have BK193 := n1_; have BK204 := n2_; have HB := n3_; clear n0_ n1_ n2_ n3_; (try clear hb); (try clear hb2); (try clear hk); (try clear hi)))
                            go_loopg [3, 10] kj12 (fun kq v3 v10 w' => ∃ (x3_4 : List Int) (x10_4 : Int), v10 = .int .i64 x10_4 ∧ Aside0 (sledgelaw4_BitsWord.l1 kq x3_4 x4_2 t205 t206 0 t208 x10_4 l0_0 l0_1 l0_2 l0_3 l0_4 = some r) ∧ Aside0 (kq ≤ kj12) ∧ Aside0 (Kd.R (Kd.int .u32) 33 w' w.heap.size (fun _ => True) v3 x3_4) ∧ Aside0 (w'.heap[gb193]? = some (.cells #[(.slice (some ad203) l0_0.length c0_0), (.slice A0_1 l0_1.length c0_1), (.slice A0_2 l0_2.length c0_2), (.slice A0_3 l0_3.length c0_3), (.slice A0_4 l0_4.length c0_4)] 32 (0, 0))) ∧ Aside0 (w'.heap[gb204]? = some (.cells #[.int .i64 ((rd_T35 l0_0 x4_2).f0), .int .i64 ((rd_T35 l0_0 x4_2).f1), .int .i64 ((rd_T35 l0_0 x4_2).f2), .int .i64 ((rd_T35 l0_0 x4_2).f3), .int .i64 ((rd_T35 l0_0 x4_2).f4), .string ((rd_T35 l0_0 x4_2).f5)] 35 (0, 0))) ∧ Aside0 (Below w.heap.size w w'))
                            case atStart => exact ⟨(x3_2), (0), (by first | rfl | (simp; done) | (simp [*]; done) | (congr 1; rw [Bool.eq_iff_iff]; simp; done)), H', ⟨Nat.le_refl _⟩, ⟨by (with_reducible repeat (first | apply Kd.R_alloc | apply Kd.R_drewN | apply Kd.R_drew)); exact HO_3.out⟩, ⟨by (with_reducible repeat (first | refine blk_drewN ?_ _ | refine blk_drew ?_ | refine blk_alloc ?_ _)); exact BK193.out⟩, ⟨by (with_reducible repeat (first | refine blk_drewN ?_ _ | refine blk_drew ?_ | refine blk_alloc ?_ _)); exact BK204.out⟩, ⟨by repeat (first | (with_reducible first | exact HB.out | apply below_alloc | apply pw_below_drewN | apply below_drew1 | refine below_set ?_ GE193.out | refine below_set ?_ GE204.out) | exact HB.out)⟩⟩
                            case round =>
                              clear H'
                              try clear c1
                              try clear q1
                              try clear c2
                              try clear p2
                              try clear q2
                              try clear hx2
                              try clear c3
                              try clear c8
                              try clear c9
                              try clear c10
                              try clear c10b0
                              try clear c10b1
                              try clear c11
                              try clear c11b0
                              try clear c11b1
                              try clear q12
                              try clear c14
                              try clear c14b0
                              try clear c17
                              try clear c18
                              try clear c18b0
                              try clear c19
                              try clear c19b0
                              try clear p20
                              try clear q20
                              try clear hx20
                              try clear c25
                              try clear c30
                              try clear c31
                              try clear c31b0
                              try clear c31b1
                              try clear c33
                              try clear hcz15_0
                              try clear hcz15_1
                              try clear hcz15_2
                              try clear hcz15_3
                              try clear hcz15_4
                              try clear hcz16_0
                              try clear hcz16_1
                              try clear hcz16_2
                              try clear hcz16_3
                              try clear hcz16_4
                              try clear hcz23_0
                              try clear hcz23_1
                              try clear hcz23_2
                              try clear hcz23_3
                              try clear hcz23_4
                              try clear hcz26_0
                              try clear hcz26_1
                              try clear hcz26_2
                              try clear hcz26_3
                              try clear hcz26_4
                              try clear hcz26_5
                              try clear hcz28_0
                              try clear hcz28_1
                              try clear hcz28_2
                              try clear hcz28_3
                              try clear hcz28_4
                              try clear hcz28_5
                              try clear hcz34_0
                              try clear hcz34_1
                              try clear hcz34_2
                              try clear hcz34_3
                              try clear hcz34_4
                              try clear hcz34_5
                              try clear hcz7_0
                              try clear hcz7_1
                              try clear hcz7_2
                              try clear hcz7_3
                              try clear hcz7_4
                              try clear hfz15_0
                              try clear hfz15_1
                              try clear hfz15_2
                              try clear hfz15_3
                              try clear hfz15_4
                              try clear hfz16_0
                              try clear hfz16_1
                              try clear hfz16_2
                              try clear hfz16_3
                              try clear hfz16_4
                              try clear hfz23_0
                              try clear hfz23_1
                              try clear hfz23_2
                              try clear hfz23_3
                              try clear hfz23_4
                              try clear hfz26_0
                              try clear hfz26_1
                              try clear hfz26_2
                              try clear hfz26_3
                              try clear hfz26_4
                              try clear hfz26_5
                              try clear hfz28_0
                              try clear hfz28_1
                              try clear hfz28_2
                              try clear hfz28_3
                              try clear hfz28_4
                              try clear hfz28_5
                              try clear hfz34_0
                              try clear hfz34_1
                              try clear hfz34_2
                              try clear hfz34_3
                              try clear hfz34_4
                              try clear hfz34_5
                              try clear hfz7_0
                              try clear hfz7_1
                              try clear hfz7_2
                              try clear hfz7_3
                              try clear hfz7_4
                              try clear hx203_0
                              try clear hx203_1
                              try clear hx203_2
                              try clear hx203_3
                              try clear hx203_4
                              try clear hx203_5
                              try clear p2
                              try clear p203
                              try clear q1
                              try clear q12
                              try clear q203
                              obtain ⟨x3_4, x10_4, rfl, HA, HK4, HO_3, BK193, BK204, HB⟩ := hrel
                              cases gk with
                              | zero => exact absurd HA.out (by simp [sledgelaw4_BitsWord.l1])
                              | succ k4 =>
                                have H := HA.out
                                clear HA
                                simp only [sledgelaw4_BitsWord.l1] at H
                                by_cases c36 : x10_4 < 32
                                · rw [if_pos c36] at H
                                  have c36b0 : decide (x10_4 < 32) = true := decide_eq_true c36
                                  clear c36
                                  by_cases c37 : 0 ≤ x10_4
                                  · rw [if_pos c37] at H
                                    have c37b0 := eq_true c37
                                    have c37b1 : decide (0 ≤ x10_4) = true := decide_eq_true c37
                                    clear c37
                                    obtain ⟨ji38, hji38⟩ : ∃ j_ : Int, (shl .u32 1 x10_4) = j_ := ⟨_, rfl⟩
                                    replace H : (if x3_4.length < 35184372088832 then (sledgelaw4_BitsWord.l1 k4 (x3_4 ++ [Go.bits .xor .u32 t208 (ji38)]) x4_2 t205 t206 0 t208 (wrap64 (x10_4 + 1)) l0_0 l0_1 l0_2 l0_3 l0_4) else (none)) = some r := by first | (rw [hji38] at H; exact H) | (simp only [hji38] at H ⊢; exact H)
                                    have hji38_ : (IntKind.u32.wrap (1 * 2 ^ min x10_4.toNat 32)) = ji38 := hji38
                                    have hji38z : x10_4 ≤ 32 → (IntKind.u32.wrap (1 * 2 ^ x10_4.toNat)) = ji38 := shl_small hji38
                                    have hji38u : (IntKind.u32.wrap (2 ^ min x10_4.toNat 32)) = ji38 := by have h_ := hji38_; rw [Int.one_mul] at h_; exact h_
                                    have hji38v : x10_4 ≤ 32 → (IntKind.u32.wrap (2 ^ x10_4.toNat)) = ji38 := fun hle_ => by have h_ := hji38z hle_; rw [Int.one_mul] at h_; exact h_
                                    by_cases c39 : x3_4.length < 35184372088832
                                    · rw [if_pos c39] at H
                                      have LMc39 := Aside0.mk c39
                                      clear c39
                                      obtain ⟨y209, hy209⟩ : ∃ y_ : List Int, y_ = (x3_4 ++ [Go.bits .xor .u32 t208 (ji38)]) := ⟨_, rfl⟩
                                      replace H : (sledgelaw4_BitsWord.l1 k4 y209 x4_2 t205 t206 0 t208 (wrap64 (x10_4 + 1)) l0_0 l0_1 l0_2 l0_3 l0_4) = some r := by first | (rw [hy209]; with_reducible exact H) | (have H2_ := (Option.bind_some _ _).symm.trans H; rw [hy209]; with_reducible exact H2_) | (have H2_ := (Option.bind_some _ _).symm.trans H; with_reducible exact H2_) | with_reducible exact H | (rw [hy209]; exact H) | exact H
                                      have Ny209 := Aside0.mk hy209
                                      clear hy209
                                      have H' := Aside0.mk H
                                      clear H
                                      go_wp2_with (first | ((with_reducible refine gate_builtin (b := .append) (xs := #[.tmp 60, .tmp 65]) rfl ?_); at_builtin; refine Kd.R_append (Kd.int .u32) (w0 := w) w.heap.size rfl (.tmp 60) (.tmp 65) 26 33 (.int .u32 0) 4 rfl Try.underlying26 info33 rfl (by decide) (by omega) u3 x3_4 (Go.bits .xor .u32 t208 (ji38)) [.int .u32 (Go.bits .xor .u32 t208 (ji38))] (fun _ => True) (fun _ => False) rfl rfl ?aP (fun _ hk => hk.elim) ?aF ?aO ?aB ?aS ?aL ?_; (case aP => exact rfl); (case aB => exact (by repeat (first | (with_reducible first | exact HB.out | apply below_alloc | apply pw_below_drewN | apply below_drew1 | refine below_set ?_ GE193.out | refine below_set ?_ GE204.out) | exact HB.out))); (case aF => exact (fun _ _ => trivial)); (case aO => exact (by (with_reducible repeat (first | apply Kd.R_alloc | apply Kd.R_drewN | apply Kd.R_drew)); exact HO_3.out)); (case aS => exact (below_size (by repeat (first | (with_reducible first | exact HB.out | apply below_alloc | apply pw_below_drewN | apply below_drew1 | refine below_set ?_ GE193.out | refine below_set ?_ GE204.out) | exact HB.out)))); (case aL => have := LMc39.out; omega); intro v210 w40 ho hb hg hat; rw [← Ny209.out] at ho; have n0_ := Aside0.mk (blk_grown (g := gb193) (o := .cells #[.slice (some ad203) l0_0.length c0_0, .slice A0_1 l0_1.length c0_1, .slice A0_2 l0_2.length c0_2, .slice A0_3 l0_3.length c0_3, .slice A0_4 l0_4.length c0_4] 32 (0, 0)) (by (with_reducible repeat (first | refine blk_drewN ?_ _ | refine blk_drew ?_ | refine blk_alloc ?_ _)); exact BK193.out) hg (Kd.R_ne HO_3.out BK193.out (by decide))); have n1_ := Aside0.mk (blk_grown (g := gb204) (o := .cells #[.int .i64 ((rd_T35 l0_0 x4_2).f0), .int .i64 ((rd_T35 l0_0 x4_2).f1), .int .i64 ((rd_T35 l0_0 x4_2).f2), .int .i64 ((rd_T35 l0_0 x4_2).f3), .int .i64 ((rd_T35 l0_0 x4_2).f4), .string ((rd_T35 l0_0 x4_2).f5)] 35 (0, 0)) (by (with_reducible repeat (first | refine blk_drewN ?_ _ | refine blk_drew ?_ | refine blk_alloc ?_ _)); exact BK204.out) hg (Kd.R_ne HO_3.out BK204.out (by decide))); have n2_ := Aside0.mk (hb); have n3_ := Aside0.mk (ho); clear BK193; clear BK204; clear HB; clear HO_3; have BK193 := n0_; have BK204 := n1_; have HB := n2_; have HO211 := n3_; clear n0_ n1_ n2_ n3_; clear ho hb hg hat))
                                      go_roundg k4
                                      case measure => have := HJ2.out; have := HK2.out; have := HJ12.out; have := HK4.out; omega
                                      case rel => exact ⟨(y209), (wrap64 (x10_4 + 1)), (by first | rfl | (simp; done) | (simp [*]; done) | (congr 1; rw [Bool.eq_iff_iff]; simp; done)), H', ⟨by have := HJ2.out; have := HK2.out; have := HJ12.out; have := HK4.out; omega⟩, ⟨by (with_reducible repeat (first | apply Kd.R_alloc | apply Kd.R_drewN | apply Kd.R_drew)); exact HO211.out⟩, ⟨by (with_reducible repeat (first | refine blk_drewN ?_ _ | refine blk_drew ?_ | refine blk_alloc ?_ _)); exact BK193.out⟩, ⟨by (with_reducible repeat (first | refine blk_drewN ?_ _ | refine blk_drew ?_ | refine blk_alloc ?_ _)); exact BK204.out⟩, ⟨by repeat (first | (with_reducible first | exact HB.out | apply below_alloc | apply pw_below_drewN | apply below_drew1 | refine below_set ?_ GE193.out | refine below_set ?_ GE204.out) | exact HB.out)⟩⟩
                                    · rw [if_neg c39] at H
                                      exact absurd H (by simp)
                                  · rw [if_neg c37] at H
                                    exact absurd H (by simp)
                                · rw [if_neg c36] at H
                                  have c36b0 : decide (x10_4 < 32) = false := decide_eq_false c36
                                  clear c36
                                  have H' := Aside0.mk H
                                  clear H
                                  go_wp2
                                  go_meet
                                  case rel => exact ⟨_, (x3_4), (0), (t208), (by first | rfl | (simp; done) | (simp [*]; done) | (congr 1; rw [Bool.eq_iff_iff]; simp; done)), (by first | rfl | (simp; done) | (simp [*]; done) | (congr 1; rw [Bool.eq_iff_iff]; simp; done)), H', ⟨by have := HJ2.out; have := HK2.out; have := HJ12.out; have := HK4.out; first | omega | exact Nat.le_refl _⟩, ⟨by (with_reducible repeat (first | apply Kd.R_alloc | apply Kd.R_drewN | apply Kd.R_drew)); exact HO_3.out⟩, ⟨by (with_reducible repeat (first | refine blk_drewN ?_ _ | refine blk_drew ?_ | refine blk_alloc ?_ _)); exact BK193.out⟩, ⟨by (with_reducible repeat (first | refine blk_drewN ?_ _ | refine blk_drew ?_ | refine blk_alloc ?_ _)); exact BK204.out⟩, ⟨by repeat (first | (with_reducible first | exact HB.out | apply below_alloc | apply pw_below_drewN | apply below_drew1 | refine below_set ?_ GE193.out | refine below_set ?_ GE204.out) | exact HB.out)⟩⟩
                          · rw [if_neg c31] at H
                            have c31b0 : (((rd_T35 l0_0 x4_2).f5).toList == ([] : List UInt8)) = false := beq_eq_false_iff_ne.mpr c31
                            have c31b1 : (((rd_T35 l0_0 x4_2).f5).toList != ([] : List UInt8)) = true := bne_iff_ne.mpr c31
                            (first | rw [c31b0] | (simp only [i64_w, i32_w]; rw [c31b0]) | skip)
                            have H' := Aside0.mk H
                            clear H
                            have hnb41 := NB204_193.out
                            have hnc41 := NB193_204.out
                            have hcz42_0 : w29.cell? ⟨gb204, 0, none⟩ = some (.int .i64 ((rd_T35 l0_0 x4_2).f0)) := (blk_cell BK204.out 0).trans rfl
                            have hcz42_1 : w29.cell? ⟨gb204, 1, none⟩ = some (.int .i64 ((rd_T35 l0_0 x4_2).f1)) := (blk_cell BK204.out 1).trans rfl
                            have hcz42_2 : w29.cell? ⟨gb204, 2, none⟩ = some (.int .i64 ((rd_T35 l0_0 x4_2).f2)) := (blk_cell BK204.out 2).trans rfl
                            have hcz42_3 : w29.cell? ⟨gb204, 3, none⟩ = some (.int .i64 ((rd_T35 l0_0 x4_2).f3)) := (blk_cell BK204.out 3).trans rfl
                            have hcz42_4 : w29.cell? ⟨gb204, 4, none⟩ = some (.int .i64 ((rd_T35 l0_0 x4_2).f4)) := (blk_cell BK204.out 4).trans rfl
                            have hcz42_5 : w29.cell? ⟨gb204, 5, none⟩ = some (.string ((rd_T35 l0_0 x4_2).f5)) := (blk_cell BK204.out 5).trans rfl
                            have hfz42_0 := blk_frozen BK204.out 0
                            have hfz42_1 := blk_frozen BK204.out 1
                            have hfz42_2 := blk_frozen BK204.out 2
                            have hfz42_3 := blk_frozen BK204.out 3
                            have hfz42_4 := blk_frozen BK204.out 4
                            have hfz42_5 := blk_frozen BK204.out 5
                            go_wp2
                            go_meet
                            case rel => exact ⟨_, (x3_2), (6), (0), (by first | rfl | (simp; done) | (simp [*]; done) | (congr 1; rw [Bool.eq_iff_iff]; simp; done)), (by first | rfl | (simp; done) | (simp [*]; done) | (congr 1; rw [Bool.eq_iff_iff]; simp; done)), H', ⟨by have := HJ2.out; have := HK2.out; have := HJ12.out; first | omega | exact Nat.le_refl _⟩, ⟨by (with_reducible repeat (first | apply Kd.R_alloc | apply Kd.R_drewN | apply Kd.R_drew)); exact HO_3.out⟩, ⟨by (with_reducible repeat (first | refine blk_drewN ?_ _ | refine blk_drew ?_ | refine blk_alloc ?_ _)); exact BK193.out⟩, ⟨by (with_reducible repeat (first | refine blk_drewN ?_ _ | refine blk_drew ?_ | refine blk_alloc ?_ _)); exact BK204.out⟩, ⟨by repeat (first | (with_reducible first | exact HB.out | apply below_alloc | apply pw_below_drewN | apply below_drew1 | refine below_set ?_ GE193.out | refine below_set ?_ GE204.out) | exact HB.out)⟩⟩
                        · replace c30 := Bool.eq_false_iff.mpr c30
                          subst c30
                          have H1 : (sledgelaw4_BitsWord.j4 kj12 x3_2 x4_2 t205 t206 1 0 l0_0 l0_1 l0_2 l0_3 l0_4) = some r := by rw [if_neg (show ¬ (false = true) by decide)] at H; exact H
                          clear H
                          have H := H1
                          clear H1
                          have H' := Aside0.mk H
                          clear H
                          go_wp2
                          go_meet
                          case rel => exact ⟨_, (x3_2), (1), (0), (by first | rfl | (simp; done) | (simp [*]; done) | (congr 1; rw [Bool.eq_iff_iff]; simp; done)), (by first | rfl | (simp; done) | (simp [*]; done) | (congr 1; rw [Bool.eq_iff_iff]; simp; done)), H', ⟨by have := HJ2.out; have := HK2.out; have := HJ12.out; first | omega | exact Nat.le_refl _⟩, ⟨by (with_reducible repeat (first | apply Kd.R_alloc | apply Kd.R_drewN | apply Kd.R_drew)); exact HO_3.out⟩, ⟨by (with_reducible repeat (first | refine blk_drewN ?_ _ | refine blk_drew ?_ | refine blk_alloc ?_ _)); exact BK193.out⟩, ⟨by (with_reducible repeat (first | refine blk_drewN ?_ _ | refine blk_drew ?_ | refine blk_alloc ?_ _)); exact BK204.out⟩, ⟨by repeat (first | (with_reducible first | exact HB.out | apply below_alloc | apply pw_below_drewN | apply below_drew1 | refine below_set ?_ GE193.out | refine below_set ?_ GE204.out) | exact HB.out)⟩⟩
                      case rest =>
                        clear HC22
                        try clear c1
                        try clear q1
                        try clear c2
                        try clear p2
                        try clear q2
                        try clear hx2
                        try clear c3
                        try clear c4
                        try clear p6
                        try clear c8
                        try clear c9
                        try clear c10
                        try clear c10b0
                        try clear c10b1
                        try clear c11
                        try clear c11b0
                        try clear c11b1
                        try clear q12
                        try clear c14
                        try clear c14b0
                        try clear c17
                        try clear c18
                        try clear c18b0
                        try clear c19
                        try clear c19b0
                        try clear p20
                        try clear q20
                        try clear hx20
                        try clear c25
                        try clear c30
                        try clear c31
                        try clear c31b0
                        try clear c31b1
                        try clear c33
                        try clear c36
                        try clear c36b0
                        try clear c37
                        try clear c37b0
                        try clear c37b1
                        try clear c39
                        try clear c41
                        try clear hcz15_0
                        try clear hcz15_1
                        try clear hcz15_2
                        try clear hcz15_3
                        try clear hcz15_4
                        try clear hcz16_0
                        try clear hcz16_1
                        try clear hcz16_2
                        try clear hcz16_3
                        try clear hcz16_4
                        try clear hcz23_0
                        try clear hcz23_1
                        try clear hcz23_2
                        try clear hcz23_3
                        try clear hcz23_4
                        try clear hcz26_0
                        try clear hcz26_1
                        try clear hcz26_2
                        try clear hcz26_3
                        try clear hcz26_4
                        try clear hcz26_5
                        try clear hcz28_0
                        try clear hcz28_1
                        try clear hcz28_2
                        try clear hcz28_3
                        try clear hcz28_4
                        try clear hcz28_5
                        try clear hcz34_0
                        try clear hcz34_1
                        try clear hcz34_2
                        try clear hcz34_3
                        try clear hcz34_4
                        try clear hcz34_5
                        try clear hcz42_0
                        try clear hcz42_1
                        try clear hcz42_2
                        try clear hcz42_3
                        try clear hcz42_4
                        try clear hcz42_5
                        try clear hcz7_0
                        try clear hcz7_1
                        try clear hcz7_2
                        try clear hcz7_3
                        try clear hcz7_4
                        try clear hfz15_0
                        try clear hfz15_1
                        try clear hfz15_2
                        try clear hfz15_3
                        try clear hfz15_4
                        try clear hfz16_0
                        try clear hfz16_1
                        try clear hfz16_2
                        try clear hfz16_3
                        try clear hfz16_4
                        try clear hfz23_0
                        try clear hfz23_1
                        try clear hfz23_2
                        try clear hfz23_3
                        try clear hfz23_4
                        try clear hfz26_0
                        try clear hfz26_1
                        try clear hfz26_2
                        try clear hfz26_3
                        try clear hfz26_4
                        try clear hfz26_5
                        try clear hfz28_0
                        try clear hfz28_1
                        try clear hfz28_2
                        try clear hfz28_3
                        try clear hfz28_4
                        try clear hfz28_5
                        try clear hfz34_0
                        try clear hfz34_1
                        try clear hfz34_2
                        try clear hfz34_3
                        try clear hfz34_4
                        try clear hfz34_5
                        try clear hfz42_0
                        try clear hfz42_1
                        try clear hfz42_2
                        try clear hfz42_3
                        try clear hfz42_4
                        try clear hfz42_5
                        try clear hfz7_0
                        try clear hfz7_1
                        try clear hfz7_2
                        try clear hfz7_3
                        try clear hfz7_4
                        try clear hx203_0
                        try clear hx203_1
                        try clear hx203_2
                        try clear hx203_3
                        try clear hx203_4
                        try clear hx203_5
                        try clear p2
                        try clear p20
                        try clear p203
                        try clear q1
                        try clear q12
                        try clear q2
                        try clear q20
                        try clear q203
                        obtain ⟨kq, x3_21, x8_21, x9_21, rfl, rfl, HA, HJ21, HO_3, BK193, BK204, HB⟩ := hcut
                        cases kq with
                        | zero => exact absurd HA.out (by simp [sledgelaw4_BitsWord.j4])
                        | succ kj21 =>
                          have H := HA.out
                          clear HA
                          simp only [sledgelaw4_BitsWord.j4] at H
                          replace H := Option.bind_eq_some_iff.mp H
                          obtain ⟨t212, A430, H⟩ := H
                          replace H : (if t212 = x8_21 then (if t205 = x9_21 then (sledgelaw4_BitsWord.l0 kj21 x3_21 (wrap64 (x4_2 + 1)) l0_0 l0_1 l0_2 l0_3 l0_4) else (some false)) else (some false)) = some r := H
                          have A43 := Aside0.mk A430
                          clear A430
                          by_cases c44 : t212 = x8_21
                          · rw [if_pos c44] at H
                            have c44b0 : (t212 == x8_21) = true := beq_iff_eq.mpr c44
                            have c44b1 : (t212 != x8_21) = false := bne_eq_false_iff_eq.mpr c44
                            clear c44
                            by_cases c45 : t205 = x9_21
                            · rw [if_pos c45] at H
                              have c45b0 : (t205 == x9_21) = true := beq_iff_eq.mpr c45
                              have c45b1 : (t205 != x9_21) = false := bne_eq_false_iff_eq.mpr c45
                              clear c45
                              have H' := Aside0.mk H
                              clear H
                              go_wp2_with (first | ((with_reducible refine gate_callee (f := 11) rfl ?_); refine goesL_ (some 68) rfl rfl Try.func11 (by kernel_rfl) rfl #[.int .i64 t206] rfl (by (try simp only [List.map_toArray, List.map_cons, List.map_nil]); first | done | rfl | (simp only [List.length_drop, List.length_take]; rfl)) ?_; (with_reducible refine (sledgelaw4_num.calls t206 t212 _ A43.out).mono ?_); rintro e w' ⟨rfl, ⟨nd, rfl⟩⟩; refine ⟨_, rfl, ?_⟩))
                              go_roundg kj21
                              case measure => have := HJ2.out; have := HK2.out; have := HJ12.out; have := HJ21.out; omega
                              case rel => exact ⟨(x3_21), (wrap64 (x4_2 + 1)), (by first | rfl | (simp; done) | (simp [*]; done) | (congr 1; rw [Bool.eq_iff_iff]; simp; done)), H', ⟨by have := HJ2.out; have := HK2.out; have := HJ12.out; have := HJ21.out; omega⟩, ⟨by (with_reducible repeat (first | apply Kd.R_alloc | apply Kd.R_drewN | apply Kd.R_drew)); exact HO_3.out⟩, ⟨by (with_reducible repeat (first | refine blk_drewN ?_ _ | refine blk_drew ?_ | refine blk_alloc ?_ _)); exact BK193.out⟩, ⟨by repeat (first | (with_reducible first | exact HB.out | apply below_alloc | apply pw_below_drewN | apply below_drew1 | refine below_set ?_ GE193.out | refine below_set ?_ GE204.out) | exact HB.out)⟩⟩
                            · rw [if_neg c45] at H
                              have c45b0 : (t205 == x9_21) = false := beq_eq_false_iff_ne.mpr c45
                              have c45b1 : (t205 != x9_21) = true := bne_iff_ne.mpr c45
                              obtain rfl := Option.some.inj H
                              go_wp2_with (first | ((with_reducible refine gate_callee (f := 11) rfl ?_); refine goesL_ (some 68) rfl rfl Try.func11 (by kernel_rfl) rfl #[.int .i64 t206] rfl (by (try simp only [List.map_toArray, List.map_cons, List.map_nil]); first | done | rfl | (simp only [List.length_drop, List.length_take]; rfl)) ?_; (with_reducible refine (sledgelaw4_num.calls t206 t212 _ A43.out).mono ?_); rintro e w' ⟨rfl, ⟨nd, rfl⟩⟩; refine ⟨_, rfl, ?_⟩))
                              go_ret
                              exact ⟨by first | rfl | (simp [errW_none, errW_some] <;> rfl) | (simp [*, errW_none, errW_some] <;> rfl), by repeat (first | (with_reducible first | exact HB.out | apply below_alloc | apply pw_below_drewN | apply below_drew1 | refine below_set ?_ GE193.out | refine below_set ?_ GE204.out) | exact HB.out)⟩
                          · rw [if_neg c44] at H
                            have c44b0 : (t212 == x8_21) = false := beq_eq_false_iff_ne.mpr c44
                            have c44b1 : (t212 != x8_21) = true := bne_iff_ne.mpr c44
                            obtain rfl := Option.some.inj H
                            go_wp2_with (first | ((with_reducible refine gate_callee (f := 11) rfl ?_); refine goesL_ (some 68) rfl rfl Try.func11 (by kernel_rfl) rfl #[.int .i64 t206] rfl (by (try simp only [List.map_toArray, List.map_cons, List.map_nil]); first | done | rfl | (simp only [List.length_drop, List.length_take]; rfl)) ?_; (with_reducible refine (sledgelaw4_num.calls t206 t212 _ A43.out).mono ?_); rintro e w' ⟨rfl, ⟨nd, rfl⟩⟩; refine ⟨_, rfl, ?_⟩))
                            go_ret
                            exact ⟨by first | rfl | (simp [errW_none, errW_some] <;> rfl) | (simp [*, errW_none, errW_some] <;> rfl), by repeat (first | (with_reducible first | exact HB.out | apply below_alloc | apply pw_below_drewN | apply below_drew1 | refine below_set ?_ GE193.out | refine below_set ?_ GE204.out) | exact HB.out)⟩
                    · rw [if_neg c19] at H
                      exact absurd H (by simp)
                  · rw [if_neg c18] at H
                    exact absurd H (by simp)
                · replace c17 := Bool.eq_false_iff.mpr c17
                  subst c17
                  have H1 : (sledgelaw4_BitsWord.l2 kj12 x3_2 0) = some r := by rw [if_neg (show ¬ (false = true) by decide)] at H; exact H
                  clear H
                  have H := H1
                  clear H1
                  have H' := Aside0.mk H
                  clear H
                  go_wp2
                  go_loopg [11] kj12 (fun kq v11 w' => ∃ (x11_4 : Int), v11 = .int .i64 x11_4 ∧ Aside0 (sledgelaw4_BitsWord.l2 kq x3_2 x11_4 = some r) ∧ Aside0 (kq ≤ kj12) ∧ Aside0 (Kd.R (Kd.int .u32) 33 w' w.heap.size (fun _ => True) u3 x3_2) ∧ Aside0 (w'.heap[gb193]? = some (.cells #[(.slice A0_0 l0_0.length c0_0), (.slice A0_1 l0_1.length c0_1), (.slice A0_2 l0_2.length c0_2), (.slice A0_3 l0_3.length c0_3), (.slice A0_4 l0_4.length c0_4)] 32 (0, 0))) ∧ Aside0 (Below w.heap.size w w'))
                  case atStart => exact ⟨(0), (by first | rfl | (simp; done) | (simp [*]; done) | (congr 1; rw [Bool.eq_iff_iff]; simp; done)), H', ⟨Nat.le_refl _⟩, ⟨by (with_reducible repeat (first | apply Kd.R_alloc | apply Kd.R_drewN | apply Kd.R_drew)); exact HO_3.out⟩, ⟨by (with_reducible repeat (first | refine blk_drewN ?_ _ | refine blk_drew ?_ | refine blk_alloc ?_ _)); exact BK193.out⟩, ⟨by repeat (first | (with_reducible first | exact HB.out | apply below_alloc | apply pw_below_drewN | apply below_drew1 | refine below_set ?_ GE193.out) | exact HB.out)⟩⟩
                  case round =>
                    clear H'
                    try clear c1
                    try clear q1
                    try clear c2
                    try clear p2
                    try clear q2
                    try clear hx2
                    try clear c3
                    try clear c4
                    try clear p6
                    try clear c8
                    try clear c9
                    try clear c10
                    try clear c10b0
                    try clear c10b1
                    try clear c11
                    try clear c11b0
                    try clear c11b1
                    try clear q12
                    try clear c14
                    try clear c14b0
                    try clear c17
                    try clear c18
                    try clear c18b0
                    try clear c19
                    try clear c19b0
                    try clear p20
                    try clear q20
                    try clear hx20
                    try clear c25
                    try clear c30
                    try clear c31
                    try clear c31b0
                    try clear c31b1
                    try clear c33
                    try clear c36
                    try clear c36b0
                    try clear c37
                    try clear c37b0
                    try clear c37b1
                    try clear c39
                    try clear c41
                    try clear c44
                    try clear c44b0
                    try clear c44b1
                    try clear c45
                    try clear c45b0
                    try clear c45b1
                    try clear hcz15_0
                    try clear hcz15_1
                    try clear hcz15_2
                    try clear hcz15_3
                    try clear hcz15_4
                    try clear hcz16_0
                    try clear hcz16_1
                    try clear hcz16_2
                    try clear hcz16_3
                    try clear hcz16_4
                    try clear hcz23_0
                    try clear hcz23_1
                    try clear hcz23_2
                    try clear hcz23_3
                    try clear hcz23_4
                    try clear hcz26_0
                    try clear hcz26_1
                    try clear hcz26_2
                    try clear hcz26_3
                    try clear hcz26_4
                    try clear hcz26_5
                    try clear hcz28_0
                    try clear hcz28_1
                    try clear hcz28_2
                    try clear hcz28_3
                    try clear hcz28_4
                    try clear hcz28_5
                    try clear hcz34_0
                    try clear hcz34_1
                    try clear hcz34_2
                    try clear hcz34_3
                    try clear hcz34_4
                    try clear hcz34_5
                    try clear hcz42_0
                    try clear hcz42_1
                    try clear hcz42_2
                    try clear hcz42_3
                    try clear hcz42_4
                    try clear hcz42_5
                    try clear hcz7_0
                    try clear hcz7_1
                    try clear hcz7_2
                    try clear hcz7_3
                    try clear hcz7_4
                    try clear hfz15_0
                    try clear hfz15_1
                    try clear hfz15_2
                    try clear hfz15_3
                    try clear hfz15_4
                    try clear hfz16_0
                    try clear hfz16_1
                    try clear hfz16_2
                    try clear hfz16_3
                    try clear hfz16_4
                    try clear hfz23_0
                    try clear hfz23_1
                    try clear hfz23_2
                    try clear hfz23_3
                    try clear hfz23_4
                    try clear hfz26_0
                    try clear hfz26_1
                    try clear hfz26_2
                    try clear hfz26_3
                    try clear hfz26_4
                    try clear hfz26_5
                    try clear hfz28_0
                    try clear hfz28_1
                    try clear hfz28_2
                    try clear hfz28_3
                    try clear hfz28_4
                    try clear hfz28_5
                    try clear hfz34_0
                    try clear hfz34_1
                    try clear hfz34_2
                    try clear hfz34_3
                    try clear hfz34_4
                    try clear hfz34_5
                    try clear hfz42_0
                    try clear hfz42_1
                    try clear hfz42_2
                    try clear hfz42_3
                    try clear hfz42_4
                    try clear hfz42_5
                    try clear hfz7_0
                    try clear hfz7_1
                    try clear hfz7_2
                    try clear hfz7_3
                    try clear hfz7_4
                    try clear hx203_0
                    try clear hx203_1
                    try clear hx203_2
                    try clear hx203_3
                    try clear hx203_4
                    try clear hx203_5
                    try clear p2
                    try clear p20
                    try clear p203
                    try clear p6
                    try clear q1
                    try clear q12
                    try clear q2
                    try clear q20
                    try clear q203
                    obtain ⟨x11_4, rfl, HA, HK4, HO_3, BK193, HB⟩ := hrel
                    cases gk with
                    | zero => exact absurd HA.out (by simp [sledgelaw4_BitsWord.l2])
                    | succ k4 =>
                      have H := HA.out
                      clear HA
                      simp only [sledgelaw4_BitsWord.l2] at H
                      by_cases c46 : x11_4 < (x3_2.length : Int)
                      · rw [if_pos c46] at H
                        have c46b0 : decide (x11_4 < (x3_2.length : Int)) = true := decide_eq_true c46
                        clear c46
                        by_cases c47 : 0 ≤ x11_4
                        · rw [if_pos c47] at H
                          have c47b0 : decide (0 ≤ x11_4) = true := decide_eq_true c47
                          clear c47
                          replace H := Option.bind_eq_some_iff.mp H
                          obtain ⟨⟨t215, t216, t217, t218, t219, t220, t221⟩, A480, H⟩ := H
                          replace H : ((sledgeref3_Unword.f k4 (rd x3_2 x11_4)).bind fun bt224 => ((sledgelaw4_num.f t221).bind fun t232 => (if (bt224.2.2.2.2.2.2 != (t232 == 0)) = true then (sledgelaw4_BitsWord.j6 k4 x3_2 x11_4 true) else (if bt224.2.2.2.2.2.2 = true then (sledgelaw4_BitsWord.j6 k4 x3_2 x11_4 (!(t215 == bt224.1) || (!(t216 == bt224.2.1) || (!(t217 == bt224.2.2.1) || (!(t218 == bt224.2.2.2.1) || (!(t219 == bt224.2.2.2.2.1) || (!(t220.toList == bt224.2.2.2.2.2.1.toList)))))))) else ((sledgelaw4_num.f t221).bind fun t233 => (if t232 = 8 then (sledgelaw4_BitsWord.j6 k4 x3_2 x11_4 (!(t215 == bt224.1) || (!(t216 == bt224.2.1) || (!(t217 == bt224.2.2.1) || (!(t218 == bt224.2.2.2.1) || (!(t219 == bt224.2.2.2.2.1) || (!(t220.toList == bt224.2.2.2.2.2.1.toList)))))))) else (sledgelaw4_BitsWord.j6 k4 x3_2 x11_4 true))))))) = some r := H
                          have A48 := Aside0.mk A480
                          clear A480
                          replace H := Option.bind_eq_some_iff.mp H
                          obtain ⟨⟨t224, t225, t226, t227, t228, t229, t230⟩, A490, H⟩ := H
                          replace H : ((sledgelaw4_num.f t221).bind fun t232 => (if (t230 != (t232 == 0)) = true then (sledgelaw4_BitsWord.j6 k4 x3_2 x11_4 true) else (if t230 = true then (sledgelaw4_BitsWord.j6 k4 x3_2 x11_4 (!(t215 == t224) || (!(t216 == t225) || (!(t217 == t226) || (!(t218 == t227) || (!(t219 == t228) || (!(t220.toList == t229.toList)))))))) else ((sledgelaw4_num.f t221).bind fun t233 => (if t232 = 8 then (sledgelaw4_BitsWord.j6 k4 x3_2 x11_4 (!(t215 == t224) || (!(t216 == t225) || (!(t217 == t226) || (!(t218 == t227) || (!(t219 == t228) || (!(t220.toList == t229.toList)))))))) else (sledgelaw4_BitsWord.j6 k4 x3_2 x11_4 true)))))) = some r := H
                          have A49 := Aside0.mk A490
                          clear A490
                          have HC50 := Aside0.mk H
                          clear H
                          obtain ⟨Ao51, co51, eo51⟩ := Kd.R_slice HO_3.out
                          subst eo51
                          have p214 : 0 ≤ (x11_4 : Int) := of_decide_eq_true (by first | (with_reducible assumption) | assumption)
                          have q214 : x11_4 < (x3_2.length : Int) := of_decide_eq_true (by first | (with_reducible assumption) | assumption)
                          obtain ⟨ad214, e214, hx214_0⟩ := Kd.at_int (Kd.R_reads' HO_3.out).2.2 x11_4 p214 q214
                          cases e214
                          replace p214 := eq_true p214
                          replace q214 := eq_true q214
                          go_upto_region 25 with (first | ((with_reducible refine gate_callee (f := 12) rfl ?_); refine goesL_ (some 87) rfl rfl Try.func12 (by kernel_rfl) rfl #[.int .u32 (rd x3_2 x11_4)] rfl (by (try simp only [List.map_toArray, List.map_cons, List.map_nil]); first | done | rfl | (simp only [List.length_drop, List.length_take]; rfl)) ?_; (with_reducible refine (bits_Ins.calls k4 (rd x3_2 x11_4) t215 t216 t217 t218 t219 t220 t221 _ A48.out).mono ?_); rintro e w52 ⟨rfl, hb⟩; refine ⟨_, rfl, ?_⟩; have n0_ := Aside0.mk (Kd.R_below (by (with_reducible repeat (first | apply Kd.R_alloc | apply Kd.R_drewN | apply Kd.R_drew)); exact HO_3.out) hb); have n1_ := Aside0.mk (blk_below (g := gb193) (o := .cells #[.slice A0_0 l0_0.length c0_0, .slice A0_1 l0_1.length c0_1, .slice A0_2 l0_2.length c0_2, .slice A0_3 l0_3.length c0_3, .slice A0_4 l0_4.length c0_4] 32 (0, 0)) (by (with_reducible repeat (first | refine blk_drewN ?_ _ | refine blk_drew ?_ | refine blk_alloc ?_ _)); exact BK193.out) hb); have n2_ := Aside0.mk (below_step (by repeat (first | (with_reducible first | exact HB.out | apply below_alloc | apply pw_below_drewN | apply below_drew1 | refine below_set ?_ GE193.out) | exact HB.out)) hb); clear HO_3; clear BK193; clear HB; have HO_3 := n0_; have BK193 := n1_; have HB := n2_; clear n0_ n1_ n2_; (try clear hb); (try clear hb2); (try clear hk); (try clear hi)) | ((with_reducible refine gate_dst (N := 12) rfl ?_); refine box_event ?hg (N := 12) ?hd (cs := #[.int .i64 0, .int .i64 0, .int .i64 0, .int .i64 0, .int .i64 0, .string (⟨#[]⟩ : ByteArray)]) (t := 35) ?hr ?_; (case hd => rfl); (case hg => rfl); (case hr => first | (go_simp; done) | (go_simp; rfl)); intro gb222 hg w53 hbox hb; have n0_ := Aside0.mk (Kd.R_below (by (with_reducible repeat (first | apply Kd.R_alloc | apply Kd.R_drewN | apply Kd.R_drew)); exact HO_3.out) hb); have n1_ := Aside0.mk (blk_below (g := gb193) (o := .cells #[.slice A0_0 l0_0.length c0_0, .slice A0_1 l0_1.length c0_1, .slice A0_2 l0_2.length c0_2, .slice A0_3 l0_3.length c0_3, .slice A0_4 l0_4.length c0_4] 32 (0, 0)) (by (with_reducible repeat (first | refine blk_drewN ?_ _ | refine blk_drew ?_ | refine blk_alloc ?_ _)); exact BK193.out) hb); have n2_ := Aside0.mk (below_step (by repeat (first | (with_reducible first | exact HB.out | apply below_alloc | apply pw_below_drewN | apply below_drew1 | refine below_set ?_ GE193.out) | exact HB.out)) hb); have n3_ := Aside0.mk (hbox); have n4_ := Aside0.mk ((by rw [hg]; exact (below_size (by repeat (first | (with_reducible first | exact HB.out | apply below_alloc | apply pw_below_drewN | apply below_drew1 | refine below_set ?_ GE193.out) | exact HB.out))) : w.heap.size ≤ gb222)); have n5_ := Aside0.mk ((by rw [hg]; exact (below_size (by repeat (first | (with_reducible first | exact HB.out | apply below_alloc | apply pw_below_drewN | apply below_drew1 | refine below_set ?_ GE193.out) | exact HB.out))) : w.heap.size ≤ gb222)); have n6_ := Aside0.mk ((by rw [hg]; exact Nat.ne_of_lt (blk_lt (g := gb193) (o := .cells #[.slice A0_0 l0_0.length c0_0, .slice A0_1 l0_1.length c0_1, .slice A0_2 l0_2.length c0_2, .slice A0_3 l0_3.length c0_3, .slice A0_4 l0_4.length c0_4] 32 (0, 0)) (by (with_reducible repeat (first | refine blk_drewN ?_ _ | refine blk_drew ?_ | refine blk_alloc ?_ _)); exact BK193.out)) : gb193 ≠ gb222)); have n7_ := Aside0.mk ((by rw [hg]; exact Nat.ne_of_gt (blk_lt (g := gb193) (o := .cells #[.slice A0_0 l0_0.length c0_0, .slice A0_1 l0_1.length c0_1, .slice A0_2 l0_2.length c0_2, .slice A0_3 l0_3.length c0_3, .slice A0_4 l0_4.length c0_4] 32 (0, 0)) (by (with_reducible repeat (first | refine blk_drewN ?_ _ | refine blk_drew ?_ | refine blk_alloc ?_ _)); exact BK193.out)) : gb222 ≠ gb193)); clear HO_3; clear BK193; clear HB; have HO_3 := n0_; have BK193 := n1_; have HB := n2_; have BK222 := n3_; have GW222 := n4_; have GE222 := n5_; have NB193_222 := n6_; have NB222_193 := n7_; clear n0_ n1_ n2_ n3_ n4_ n5_ n6_ n7_; clear hb hbox hg; have hnb54 := NB222_193.out; have hnc54 := NB193_222.out; have hcz55_0 : w53.cell? ⟨gb222, 0, none⟩ = some (.int .i64 0) := (blk_cell BK222.out 0).trans rfl; have hcz55_1 : w53.cell? ⟨gb222, 1, none⟩ = some (.int .i64 0) := (blk_cell BK222.out 1).trans rfl; have hcz55_2 : w53.cell? ⟨gb222, 2, none⟩ = some (.int .i64 0) := (blk_cell BK222.out 2).trans rfl; have hcz55_3 : w53.cell? ⟨gb222, 3, none⟩ = some (.int .i64 0) := (blk_cell BK222.out 3).trans rfl; have hcz55_4 : w53.cell? ⟨gb222, 4, none⟩ = some (.int .i64 0) := (blk_cell BK222.out 4).trans rfl; have hcz55_5 : w53.cell? ⟨gb222, 5, none⟩ = some (.string (⟨#[]⟩ : ByteArray)) := (blk_cell BK222.out 5).trans rfl; have hfz55_0 := blk_frozen BK222.out 0; have hfz55_1 := blk_frozen BK222.out 1; have hfz55_2 := blk_frozen BK222.out 2; have hfz55_3 := blk_frozen BK222.out 3; have hfz55_4 := blk_frozen BK222.out 4; have hfz55_5 := blk_frozen BK222.out 5; have p223 : 0 ≤ (x11_4 : Int) := of_decide_eq_true (by first | (with_reducible assumption) | assumption); have q223 : x11_4 < (x3_2.length : Int) := of_decide_eq_true (by first | (with_reducible assumption) | assumption); obtain ⟨ad223, e223, hx223_0⟩ := Kd.at_int (Kd.R_reads' HO_3.out).2.2 x11_4 p223 q223; obtain rfl : ad214 = ad223 := (by injection e223); have hn223_0 : ad214.block ≠ gb222 := Kd.own_blk (Kd.R_ne HO_3.out BK222.out (by decide)); have hn223_1 : ad214.block ≠ gb222 := Kd.own_blk (Kd.R_ne HO_3.out BK222.out (by decide)); have hn223_2 : ad214.block ≠ gb222 := Kd.own_blk (Kd.R_ne HO_3.out BK222.out (by decide)); have hn223_3 : ad214.block ≠ gb222 := Kd.own_blk (Kd.R_ne HO_3.out BK222.out (by decide)); have hn223_4 : ad214.block ≠ gb222 := Kd.own_blk (Kd.R_ne HO_3.out BK222.out (by decide)); have hn223_5 : ad214.block ≠ gb222 := Kd.own_blk (Kd.R_ne HO_3.out BK222.out (by decide)); replace hx223_0 := (cell_far (p := ⟨gb222, 0, none⟩) (by first | (rw [add_block]; exact hn223_0) | (show (Addr.add _ _).block ≠ _; rw [add_block]; exact hn223_0) | exact hn223_0) (.int .i64 t215)).trans hx223_0; replace hx223_0 := (cell_far (p := ⟨gb222, 1, none⟩) (by first | (rw [add_block]; exact hn223_1) | (show (Addr.add _ _).block ≠ _; rw [add_block]; exact hn223_1) | exact hn223_1) (.int .i64 t216)).trans hx223_0; replace hx223_0 := (cell_far (p := ⟨gb222, 2, none⟩) (by first | (rw [add_block]; exact hn223_2) | (show (Addr.add _ _).block ≠ _; rw [add_block]; exact hn223_2) | exact hn223_2) (.int .i64 t217)).trans hx223_0; replace hx223_0 := (cell_far (p := ⟨gb222, 3, none⟩) (by first | (rw [add_block]; exact hn223_3) | (show (Addr.add _ _).block ≠ _; rw [add_block]; exact hn223_3) | exact hn223_3) (.int .i64 t218)).trans hx223_0; replace hx223_0 := (cell_far (p := ⟨gb222, 4, none⟩) (by first | (rw [add_block]; exact hn223_4) | (show (Addr.add _ _).block ≠ _; rw [add_block]; exact hn223_4) | exact hn223_4) (.int .i64 t219)).trans hx223_0; replace hx223_0 := (cell_far (p := ⟨gb222, 5, none⟩) (by first | (rw [add_block]; exact hn223_5) | (show (Addr.add _ _).block ≠ _; rw [add_block]; exact hn223_5) | exact hn223_5) (.string t220)).trans hx223_0; clear hn223_0; clear hn223_1; clear hn223_2; clear hn223_3; clear hn223_4; clear hn223_5; replace p223 := eq_true p223; replace q223 := eq_true q223) | ((with_reducible refine gate_callee (f := 13) rfl ?_); refine goesL_ (some 95) rfl rfl Try.func13 (by kernel_rfl) rfl #[.int .u32 (rd x3_2 x11_4)] rfl (by (try simp only [List.map_toArray, List.map_cons, List.map_nil]); first | done | rfl | (simp only [List.length_drop, List.length_take]; rfl)) ?_; (with_reducible refine (sledgeref3_Unword.calls k4 (rd x3_2 x11_4) t224 t225 t226 t227 t228 t229 t230 _ A49.out).mono ?_); rintro e w56 ⟨rfl, hb⟩; refine ⟨_, rfl, ?_⟩; have n0_ := Aside0.mk (Kd.R_below (by (with_reducible repeat (first | apply Kd.R_alloc | apply Kd.R_drewN | apply Kd.R_drew)); exact (Kd.R_mono (Kd.R_far (p := ⟨gb222, 5, none⟩) (Kd.R_far (p := ⟨gb222, 4, none⟩) (Kd.R_far (p := ⟨gb222, 3, none⟩) (Kd.R_far (p := ⟨gb222, 2, none⟩) (Kd.R_far (p := ⟨gb222, 1, none⟩) (Kd.R_far (p := ⟨gb222, 0, none⟩) (Kd.R_types HO_3.out BK222.out (by decide)) (fun _ hk => hk.2) (.int .i64 t215)) (fun _ hk => hk.2) (.int .i64 t216)) (fun _ hk => hk.2) (.int .i64 t217)) (fun _ hk => hk.2) (.int .i64 t218)) (fun _ hk => hk.2) (.int .i64 t219)) (fun _ hk => hk.2) (.string t220)) (fun _ h_ => h_.1))) hb); have n1_ := Aside0.mk (blk_below (g := gb193) (o := .cells #[.slice A0_0 l0_0.length c0_0, .slice A0_1 l0_1.length c0_1, .slice A0_2 l0_2.length c0_2, .slice A0_3 l0_3.length c0_3, .slice A0_4 l0_4.length c0_4] 32 (0, 0)) (by (with_reducible repeat (first | refine blk_drewN ?_ _ | refine blk_drew ?_ | refine blk_alloc ?_ _)); refine blk_far ?_ NB193_222.out _; (with_reducible repeat (first | refine blk_drewN ?_ _ | refine blk_drew ?_ | refine blk_alloc ?_ _)); refine blk_far ?_ NB193_222.out _; (with_reducible repeat (first | refine blk_drewN ?_ _ | refine blk_drew ?_ | refine blk_alloc ?_ _)); refine blk_far ?_ NB193_222.out _; (with_reducible repeat (first | refine blk_drewN ?_ _ | refine blk_drew ?_ | refine blk_alloc ?_ _)); refine blk_far ?_ NB193_222.out _; (with_reducible repeat (first | refine blk_drewN ?_ _ | refine blk_drew ?_ | refine blk_alloc ?_ _)); refine blk_far ?_ NB193_222.out _; (with_reducible repeat (first | refine blk_drewN ?_ _ | refine blk_drew ?_ | refine blk_alloc ?_ _)); refine blk_far ?_ NB193_222.out _; (with_reducible repeat (first | refine blk_drewN ?_ _ | refine blk_drew ?_ | refine blk_alloc ?_ _)); exact BK193.out) hb); have n2_ := Aside0.mk (blk_below (g := gb222) (o := .cells #[.int .i64 t215, .int .i64 t216, .int .i64 t217, .int .i64 t218, .int .i64 t219, .string t220] 35 (0, 0)) (by (with_reducible repeat (first | refine blk_drewN ?_ _ | refine blk_drew ?_ | refine blk_alloc ?_ _)); refine blk_put (cs := #[.int .i64 t215, .int .i64 t216, .int .i64 t217, .int .i64 t218, .int .i64 t219, .string (⟨#[]⟩ : ByteArray)]) ?_ 5 _ rfl; (with_reducible repeat (first | refine blk_drewN ?_ _ | refine blk_drew ?_ | refine blk_alloc ?_ _)); refine blk_put (cs := #[.int .i64 t215, .int .i64 t216, .int .i64 t217, .int .i64 t218, .int .i64 0, .string (⟨#[]⟩ : ByteArray)]) ?_ 4 _ rfl; (with_reducible repeat (first | refine blk_drewN ?_ _ | refine blk_drew ?_ | refine blk_alloc ?_ _)); refine blk_put (cs := #[.int .i64 t215, .int .i64 t216, .int .i64 t217, .int .i64 0, .int .i64 0, .string (⟨#[]⟩ : ByteArray)]) ?_ 3 _ rfl; (with_reducible repeat (first | refine blk_drewN ?_ _ | refine blk_drew ?_ | refine blk_alloc ?_ _)); refine blk_put (cs := #[.int .i64 t215, .int .i64 t216, .int .i64 0, .int .i64 0, .int .i64 0, .string (⟨#[]⟩ : ByteArray)]) ?_ 2 _ rfl; (with_reducible repeat (first | refine blk_drewN ?_ _ | refine blk_drew ?_ | refine blk_alloc ?_ _)); refine blk_put (cs := #[.int .i64 t215, .int .i64 0, .int .i64 0, .int .i64 0, .int .i64 0, .string (⟨#[]⟩ : ByteArray)]) ?_ 1 _ rfl; (with_reducible repeat (first | refine blk_drewN ?_ _ | refine blk_drew ?_ | refine blk_alloc ?_ _)); refine blk_put (cs := #[.int .i64 0, .int .i64 0, .int .i64 0, .int .i64 0, .int .i64 0, .string (⟨#[]⟩ : ByteArray)]) ?_ 0 _ rfl; (with_reducible repeat (first | refine blk_drewN ?_ _ | refine blk_drew ?_ | refine blk_alloc ?_ _)); exact BK222.out) hb); have n3_ := Aside0.mk (below_step (by repeat (first | (with_reducible first | exact HB.out | apply below_alloc | apply pw_below_drewN | apply below_drew1 | refine below_set ?_ GE193.out | refine below_set ?_ GE222.out) | exact HB.out)) hb); clear HO_3; clear BK193; clear BK222; clear HB; have HO_3 := n0_; have BK193 := n1_; have BK222 := n2_; have HB := n3_; clear n0_ n1_ n2_ n3_; (try clear hb); (try clear hb2); (try clear hk); (try clear hi)) | ((with_reducible refine gate_dst (N := 14) rfl ?_); refine box_event ?hg (N := 14) ?hd (cs := #[.int .i64 0, .int .i64 0, .int .i64 0, .int .i64 0, .int .i64 0, .string (⟨#[]⟩ : ByteArray)]) (t := 35) ?hr ?_; (case hd => rfl); (case hg => rfl); (case hr => first | (go_simp; done) | (go_simp; rfl)); intro gb231 hg w57 hbox hb; have n0_ := Aside0.mk (Kd.R_below (by (with_reducible repeat (first | apply Kd.R_alloc | apply Kd.R_drewN | apply Kd.R_drew)); exact HO_3.out) hb); have n1_ := Aside0.mk (blk_below (g := gb193) (o := .cells #[.slice A0_0 l0_0.length c0_0, .slice A0_1 l0_1.length c0_1, .slice A0_2 l0_2.length c0_2, .slice A0_3 l0_3.length c0_3, .slice A0_4 l0_4.length c0_4] 32 (0, 0)) (by (with_reducible repeat (first | refine blk_drewN ?_ _ | refine blk_drew ?_ | refine blk_alloc ?_ _)); exact BK193.out) hb); have n2_ := Aside0.mk (blk_below (g := gb222) (o := .cells #[.int .i64 t215, .int .i64 t216, .int .i64 t217, .int .i64 t218, .int .i64 t219, .string t220] 35 (0, 0)) (by (with_reducible repeat (first | refine blk_drewN ?_ _ | refine blk_drew ?_ | refine blk_alloc ?_ _)); exact BK222.out) hb); have n3_ := Aside0.mk (below_step (by repeat (first | (with_reducible first | exact HB.out | apply below_alloc | apply pw_below_drewN | apply below_drew1 | refine below_set ?_ GE193.out | refine below_set ?_ GE222.out) | exact HB.out)) hb); have n4_ := Aside0.mk (hbox); have n5_ := Aside0.mk ((by rw [hg]; exact (below_size (by repeat (first | (with_reducible first | exact HB.out | apply below_alloc | apply pw_below_drewN | apply below_drew1 | refine below_set ?_ GE193.out | refine below_set ?_ GE222.out) | exact HB.out))) : w.heap.size ≤ gb231)); have n6_ := Aside0.mk ((by rw [hg]; exact (below_size (by repeat (first | (with_reducible first | exact HB.out | apply below_alloc | apply pw_below_drewN | apply below_drew1 | refine below_set ?_ GE193.out | refine below_set ?_ GE222.out) | exact HB.out))) : w.heap.size ≤ gb231)); have n7_ := Aside0.mk ((by rw [hg]; exact Nat.ne_of_lt (blk_lt (g := gb193) (o := .cells #[.slice A0_0 l0_0.length c0_0, .slice A0_1 l0_1.length c0_1, .slice A0_2 l0_2.length c0_2, .slice A0_3 l0_3.length c0_3, .slice A0_4 l0_4.length c0_4] 32 (0, 0)) (by (with_reducible repeat (first | refine blk_drewN ?_ _ | refine blk_drew ?_ | refine blk_alloc ?_ _)); exact BK193.out)) : gb193 ≠ gb231)); have n8_ := Aside0.mk ((by rw [hg]; exact Nat.ne_of_gt (blk_lt (g := gb193) (o := .cells #[.slice A0_0 l0_0.length c0_0, .slice A0_1 l0_1.length c0_1, .slice A0_2 l0_2.length c0_2, .slice A0_3 l0_3.length c0_3, .slice A0_4 l0_4.length c0_4] 32 (0, 0)) (by (with_reducible repeat (first | refine blk_drewN ?_ _ | refine blk_drew ?_ | refine blk_alloc ?_ _)); exact BK193.out)) : gb231 ≠ gb193)); have n9_ := Aside0.mk ((by rw [hg]; exact Nat.ne_of_lt (blk_lt (g := gb222) (o := .cells #[.int .i64 t215, .int .i64 t216, .int .i64 t217, .int .i64 t218, .int .i64 t219, .string t220] 35 (0, 0)) (by (with_reducible repeat (first | refine blk_drewN ?_ _ | refine blk_drew ?_ | refine blk_alloc ?_ _)); exact BK222.out)) : gb222 ≠ gb231)); have n10_ := Aside0.mk ((by rw [hg]; exact Nat.ne_of_gt (blk_lt (g := gb222) (o := .cells #[.int .i64 t215, .int .i64 t216, .int .i64 t217, .int .i64 t218, .int .i64 t219, .string t220] 35 (0, 0)) (by (with_reducible repeat (first | refine blk_drewN ?_ _ | refine blk_drew ?_ | refine blk_alloc ?_ _)); exact BK222.out)) : gb231 ≠ gb222)); clear HO_3; clear BK193; clear BK222; clear HB; have HO_3 := n0_; have BK193 := n1_; have BK222 := n2_; have HB := n3_; have BK231 := n4_; have GW231 := n5_; have GE231 := n6_; have NB193_231 := n7_; have NB231_193 := n8_; have NB222_231 := n9_; have NB231_222 := n10_; clear n0_ n1_ n2_ n3_ n4_ n5_ n6_ n7_ n8_ n9_ n10_; clear hb hbox hg; have hnb58 := NB231_193.out; have hnc58 := NB193_231.out; have hnb59 := NB231_222.out; have hnc59 := NB222_231.out; have hcz60_0 : w57.cell? ⟨gb231, 0, none⟩ = some (.int .i64 0) := (blk_cell BK231.out 0).trans rfl; have hcz60_1 : w57.cell? ⟨gb231, 1, none⟩ = some (.int .i64 0) := (blk_cell BK231.out 1).trans rfl; have hcz60_2 : w57.cell? ⟨gb231, 2, none⟩ = some (.int .i64 0) := (blk_cell BK231.out 2).trans rfl; have hcz60_3 : w57.cell? ⟨gb231, 3, none⟩ = some (.int .i64 0) := (blk_cell BK231.out 3).trans rfl; have hcz60_4 : w57.cell? ⟨gb231, 4, none⟩ = some (.int .i64 0) := (blk_cell BK231.out 4).trans rfl; have hcz60_5 : w57.cell? ⟨gb231, 5, none⟩ = some (.string (⟨#[]⟩ : ByteArray)) := (blk_cell BK231.out 5).trans rfl; have hfz60_0 := blk_frozen BK231.out 0; have hfz60_1 := blk_frozen BK231.out 1; have hfz60_2 := blk_frozen BK231.out 2; have hfz60_3 := blk_frozen BK231.out 3; have hfz60_4 := blk_frozen BK231.out 4; have hfz60_5 := blk_frozen BK231.out 5))
                          (try simp only [Act.put, List.setIfInBounds_toArray, List.set_cons_zero, List.set_cons_succ])
                          go_cut [116] (fun v116 wc => ∃ (kq : Nat) (x116_49 : Bool), v116 = .bool x116_49 ∧ Aside0 (sledgelaw4_BitsWord.j6 kq x3_2 x11_4 x116_49 = some r) ∧ Aside0 (kq ≤ k4) ∧ Aside0 (Kd.R (Kd.int .u32) 33 wc w.heap.size (fun _ => True) (.slice (some ad214) x3_2.length co51) x3_2) ∧ Aside0 (wc.heap[gb193]? = some (.cells #[(.slice A0_0 l0_0.length c0_0), (.slice A0_1 l0_1.length c0_1), (.slice A0_2 l0_2.length c0_2), (.slice A0_3 l0_3.length c0_3), (.slice A0_4 l0_4.length c0_4)] 32 (0, 0))) ∧ Aside0 (wc.heap[gb222]? = some (.cells #[.int .i64 t215, .int .i64 t216, .int .i64 t217, .int .i64 t218, .int .i64 t219, .string t220] 35 (0, 0))) ∧ Aside0 (wc.heap[gb231]? = some (.cells #[.int .i64 t224, .int .i64 t225, .int .i64 t226, .int .i64 t227, .int .i64 t228, .string t229] 35 (0, 0))) ∧ Aside0 (Below w.heap.size w wc))
                          case first =>
                            have H := HC50.out
                            clear HC50
                            replace H := Option.bind_eq_some_iff.mp H
                            obtain ⟨t232, A610, H⟩ := H
                            replace H : (if (t230 != (t232 == 0)) = true then (sledgelaw4_BitsWord.j6 k4 x3_2 x11_4 true) else (if t230 = true then (sledgelaw4_BitsWord.j6 k4 x3_2 x11_4 (!(t215 == t224) || (!(t216 == t225) || (!(t217 == t226) || (!(t218 == t227) || (!(t219 == t228) || (!(t220.toList == t229.toList)))))))) else ((sledgelaw4_num.f t221).bind fun t233 => (if t232 = 8 then (sledgelaw4_BitsWord.j6 k4 x3_2 x11_4 (!(t215 == t224) || (!(t216 == t225) || (!(t217 == t226) || (!(t218 == t227) || (!(t219 == t228) || (!(t220.toList == t229.toList)))))))) else (sledgelaw4_BitsWord.j6 k4 x3_2 x11_4 true))))) = some r := H
                            have A61 := Aside0.mk A610
                            clear A610
                            by_cases c62 : (t230 != (t232 == 0)) = true
                            · rw [if_pos c62] at H
                              have c62b0 : (t230 != (t232 == 0)) = true := c62
                              (try (have c62b1 : decide (t230 = (t232 == 0)) = false := by simpa using c62))
                              (try (have c62b2 : (t230 == (t232 == 0)) = false := by simpa using c62))
                              (try (have c62b3 : ¬ (t230 = (t232 == 0)) := by simpa using c62))
                              clear c62
                              (first | rw [c62b0] | (simp only [i64_w, i32_w]; rw [c62b0]) | skip)
                              have H' := Aside0.mk H
                              clear H
                              go_wp2_with (first | ((with_reducible refine gate_callee (f := 11) rfl ?_); refine goesL_ (some 100) rfl rfl Try.func11 (by kernel_rfl) rfl #[.int .i64 t221] rfl (by (try simp only [List.map_toArray, List.map_cons, List.map_nil]); first | done | rfl | (simp only [List.length_drop, List.length_take]; rfl)) ?_; (with_reducible refine (sledgelaw4_num.calls t221 t232 _ A61.out).mono ?_); rintro e w' ⟨rfl, ⟨nd, rfl⟩⟩; refine ⟨_, rfl, ?_⟩))
                              go_meet
                              case rel => exact ⟨_, (true), (by first | rfl | (simp; done) | (simp [*]; done) | (congr 1; rw [Bool.eq_iff_iff]; simp; done)), H', ⟨by have := HJ2.out; have := HK2.out; have := HJ12.out; have := HK4.out; first | omega | exact Nat.le_refl _⟩, ⟨by (with_reducible repeat (first | apply Kd.R_alloc | apply Kd.R_drewN | apply Kd.R_drew)); exact Kd.R_mono (Kd.R_far (p := ⟨gb231, 5, none⟩) (Kd.R_far (p := ⟨gb231, 4, none⟩) (Kd.R_far (p := ⟨gb231, 3, none⟩) (Kd.R_far (p := ⟨gb231, 2, none⟩) (Kd.R_far (p := ⟨gb231, 1, none⟩) (Kd.R_far (p := ⟨gb231, 0, none⟩) (Kd.R_types HO_3.out BK231.out (by decide)) (fun _ hk => hk.2) (.int .i64 t224)) (fun _ hk => hk.2) (.int .i64 t225)) (fun _ hk => hk.2) (.int .i64 t226)) (fun _ hk => hk.2) (.int .i64 t227)) (fun _ hk => hk.2) (.int .i64 t228)) (fun _ hk => hk.2) (.string t229)) (fun _ hk => trivial)⟩, ⟨by (with_reducible repeat (first | refine blk_drewN ?_ _ | refine blk_drew ?_ | refine blk_alloc ?_ _)); refine blk_far ?_ NB193_231.out _; (with_reducible repeat (first | refine blk_drewN ?_ _ | refine blk_drew ?_ | refine blk_alloc ?_ _)); refine blk_far ?_ NB193_231.out _; (with_reducible repeat (first | refine blk_drewN ?_ _ | refine blk_drew ?_ | refine blk_alloc ?_ _)); refine blk_far ?_ NB193_231.out _; (with_reducible repeat (first | refine blk_drewN ?_ _ | refine blk_drew ?_ | refine blk_alloc ?_ _)); refine blk_far ?_ NB193_231.out _; (with_reducible repeat (first | refine blk_drewN ?_ _ | refine blk_drew ?_ | refine blk_alloc ?_ _)); refine blk_far ?_ NB193_231.out _; (with_reducible repeat (first | refine blk_drewN ?_ _ | refine blk_drew ?_ | refine blk_alloc ?_ _)); refine blk_far ?_ NB193_231.out _; (with_reducible repeat (first | refine blk_drewN ?_ _ | refine blk_drew ?_ | refine blk_alloc ?_ _)); exact BK193.out⟩, ⟨by (with_reducible repeat (first | refine blk_drewN ?_ _ | refine blk_drew ?_ | refine blk_alloc ?_ _)); refine blk_far ?_ NB222_231.out _; (with_reducible repeat (first | refine blk_drewN ?_ _ | refine blk_drew ?_ | refine blk_alloc ?_ _)); refine blk_far ?_ NB222_231.out _; (with_reducible repeat (first | refine blk_drewN ?_ _ | refine blk_drew ?_ | refine blk_alloc ?_ _)); refine blk_far ?_ NB222_231.out _; (with_reducible repeat (first | refine blk_drewN ?_ _ | refine blk_drew ?_ | refine blk_alloc ?_ _)); refine blk_far ?_ NB222_231.out _; (with_reducible repeat (first | refine blk_drewN ?_ _ | refine blk_drew ?_ | refine blk_alloc ?_ _)); refine blk_far ?_ NB222_231.out _; (with_reducible repeat (first | refine blk_drewN ?_ _ | refine blk_drew ?_ | refine blk_alloc ?_ _)); refine blk_far ?_ NB222_231.out _; (with_reducible repeat (first | refine blk_drewN ?_ _ | refine blk_drew ?_ | refine blk_alloc ?_ _)); exact BK222.out⟩, ⟨by (with_reducible repeat (first | refine blk_drewN ?_ _ | refine blk_drew ?_ | refine blk_alloc ?_ _)); refine blk_put (cs := #[.int .i64 t224, .int .i64 t225, .int .i64 t226, .int .i64 t227, .int .i64 t228, .string (⟨#[]⟩ : ByteArray)]) ?_ 5 _ rfl; (with_reducible repeat (first | refine blk_drewN ?_ _ | refine blk_drew ?_ | refine blk_alloc ?_ _)); refine blk_put (cs := #[.int .i64 t224, .int .i64 t225, .int .i64 t226, .int .i64 t227, .int .i64 0, .string (⟨#[]⟩ : ByteArray)]) ?_ 4 _ rfl; (with_reducible repeat (first | refine blk_drewN ?_ _ | refine blk_drew ?_ | refine blk_alloc ?_ _)); refine blk_put (cs := #[.int .i64 t224, .int .i64 t225, .int .i64 t226, .int .i64 0, .int .i64 0, .string (⟨#[]⟩ : ByteArray)]) ?_ 3 _ rfl; (with_reducible repeat (first | refine blk_drewN ?_ _ | refine blk_drew ?_ | refine blk_alloc ?_ _)); refine blk_put (cs := #[.int .i64 t224, .int .i64 t225, .int .i64 0, .int .i64 0, .int .i64 0, .string (⟨#[]⟩ : ByteArray)]) ?_ 2 _ rfl; (with_reducible repeat (first | refine blk_drewN ?_ _ | refine blk_drew ?_ | refine blk_alloc ?_ _)); refine blk_put (cs := #[.int .i64 t224, .int .i64 0, .int .i64 0, .int .i64 0, .int .i64 0, .string (⟨#[]⟩ : ByteArray)]) ?_ 1 _ rfl; (with_reducible repeat (first | refine blk_drewN ?_ _ | refine blk_drew ?_ | refine blk_alloc ?_ _)); refine blk_put (cs := #[.int .i64 0, .int .i64 0, .int .i64 0, .int .i64 0, .int .i64 0, .string (⟨#[]⟩ : ByteArray)]) ?_ 0 _ rfl; (with_reducible repeat (first | refine blk_drewN ?_ _ | refine blk_drew ?_ | refine blk_alloc ?_ _)); exact BK231.out⟩, ⟨by repeat (first | (with_reducible first | exact HB.out | apply below_alloc | apply pw_below_drewN | apply below_drew1 | refine below_set ?_ GE193.out | refine below_set ?_ GE222.out | refine below_set ?_ GE231.out) | exact HB.out)⟩⟩
                            · rw [if_neg c62] at H
                              have c62b0 : (t230 != (t232 == 0)) = false := by simpa using c62
                              (try (have c62b1 : decide (t230 = (t232 == 0)) = true := by simpa using c62))
                              (try (have c62b2 : (t230 == (t232 == 0)) = true := by simpa using c62))
                              clear c62
                              (first | rw [c62b0] | (simp only [i64_w, i32_w]; rw [c62b0]) | skip)
                              by_cases c63 : t230 = true
                              · subst c63
                                have H1 : (sledgelaw4_BitsWord.j6 k4 x3_2 x11_4 (!(t215 == t224) || (!(t216 == t225) || (!(t217 == t226) || (!(t218 == t227) || (!(t219 == t228) || (!(t220.toList == t229.toList)))))))) = some r := by rw [if_pos rfl] at H; exact H
                                clear H
                                have H := H1
                                clear H1
                                have H' := Aside0.mk H
                                clear H
                                go_wp2_with (first | ((with_reducible refine gate_callee (f := 11) rfl ?_); refine goesL_ (some 100) rfl rfl Try.func11 (by kernel_rfl) rfl #[.int .i64 t221] rfl (by (try simp only [List.map_toArray, List.map_cons, List.map_nil]); first | done | rfl | (simp only [List.length_drop, List.length_take]; rfl)) ?_; (with_reducible refine (sledgelaw4_num.calls t221 t232 _ A61.out).mono ?_); rintro e w' ⟨rfl, ⟨nd, rfl⟩⟩; refine ⟨_, rfl, ?_⟩; have hnb64 := NB222_193.out; have hnc64 := NB193_222.out; have hnb65 := NB222_231.out; have hnc65 := NB231_222.out; have hcz66_0 : w57.cell? ⟨gb222, 0, none⟩ = some (.int .i64 t215) := (blk_cell BK222.out 0).trans rfl; have hcz66_1 : w57.cell? ⟨gb222, 1, none⟩ = some (.int .i64 t216) := (blk_cell BK222.out 1).trans rfl; have hcz66_2 : w57.cell? ⟨gb222, 2, none⟩ = some (.int .i64 t217) := (blk_cell BK222.out 2).trans rfl; have hcz66_3 : w57.cell? ⟨gb222, 3, none⟩ = some (.int .i64 t218) := (blk_cell BK222.out 3).trans rfl; have hcz66_4 : w57.cell? ⟨gb222, 4, none⟩ = some (.int .i64 t219) := (blk_cell BK222.out 4).trans rfl; have hcz66_5 : w57.cell? ⟨gb222, 5, none⟩ = some (.string t220) := (blk_cell BK222.out 5).trans rfl; have hfz66_0 := blk_frozen BK222.out 0; have hfz66_1 := blk_frozen BK222.out 1; have hfz66_2 := blk_frozen BK222.out 2; have hfz66_3 := blk_frozen BK222.out 3; have hfz66_4 := blk_frozen BK222.out 4; have hfz66_5 := blk_frozen BK222.out 5; have hnb67 := NB231_193.out; have hnc67 := NB193_231.out; have hcz68_0 : w57.cell? ⟨gb231, 0, none⟩ = some (.int .i64 0) := (blk_cell BK231.out 0).trans rfl; have hcz68_1 : w57.cell? ⟨gb231, 1, none⟩ = some (.int .i64 0) := (blk_cell BK231.out 1).trans rfl; have hcz68_2 : w57.cell? ⟨gb231, 2, none⟩ = some (.int .i64 0) := (blk_cell BK231.out 2).trans rfl; have hcz68_3 : w57.cell? ⟨gb231, 3, none⟩ = some (.int .i64 0) := (blk_cell BK231.out 3).trans rfl; have hcz68_4 : w57.cell? ⟨gb231, 4, none⟩ = some (.int .i64 0) := (blk_cell BK231.out 4).trans rfl; have hcz68_5 : w57.cell? ⟨gb231, 5, none⟩ = some (.string (⟨#[]⟩ : ByteArray)) := (blk_cell BK231.out 5).trans rfl; have hfz68_0 := blk_frozen BK231.out 0; have hfz68_1 := blk_frozen BK231.out 1; have hfz68_2 := blk_frozen BK231.out 2; have hfz68_3 := blk_frozen BK231.out 3; have hfz68_4 := blk_frozen BK231.out 4; have hfz68_5 := blk_frozen BK231.out 5))
                                go_meet
                                case rel => exact ⟨_, ((!(t215 == t224) || (!(t216 == t225) || (!(t217 == t226) || (!(t218 == t227) || (!(t219 == t228) || (!(t220.toList == t229.toList)))))))), (by first | rfl | (simp; done) | (simp [*]; done) | (congr 1; rw [Bool.eq_iff_iff]; simp; done)), H', ⟨by have := HJ2.out; have := HK2.out; have := HJ12.out; have := HK4.out; first | omega | exact Nat.le_refl _⟩, ⟨by (with_reducible repeat (first | apply Kd.R_alloc | apply Kd.R_drewN | apply Kd.R_drew)); exact Kd.R_mono (Kd.R_far (p := ⟨gb231, 5, none⟩) (Kd.R_far (p := ⟨gb231, 4, none⟩) (Kd.R_far (p := ⟨gb231, 3, none⟩) (Kd.R_far (p := ⟨gb231, 2, none⟩) (Kd.R_far (p := ⟨gb231, 1, none⟩) (Kd.R_far (p := ⟨gb231, 0, none⟩) (Kd.R_types HO_3.out BK231.out (by decide)) (fun _ hk => hk.2) (.int .i64 t224)) (fun _ hk => hk.2) (.int .i64 t225)) (fun _ hk => hk.2) (.int .i64 t226)) (fun _ hk => hk.2) (.int .i64 t227)) (fun _ hk => hk.2) (.int .i64 t228)) (fun _ hk => hk.2) (.string t229)) (fun _ hk => trivial)⟩, ⟨by (with_reducible repeat (first | refine blk_drewN ?_ _ | refine blk_drew ?_ | refine blk_alloc ?_ _)); refine blk_far ?_ NB193_231.out _; (with_reducible repeat (first | refine blk_drewN ?_ _ | refine blk_drew ?_ | refine blk_alloc ?_ _)); refine blk_far ?_ NB193_231.out _; (with_reducible repeat (first | refine blk_drewN ?_ _ | refine blk_drew ?_ | refine blk_alloc ?_ _)); refine blk_far ?_ NB193_231.out _; (with_reducible repeat (first | refine blk_drewN ?_ _ | refine blk_drew ?_ | refine blk_alloc ?_ _)); refine blk_far ?_ NB193_231.out _; (with_reducible repeat (first | refine blk_drewN ?_ _ | refine blk_drew ?_ | refine blk_alloc ?_ _)); refine blk_far ?_ NB193_231.out _; (with_reducible repeat (first | refine blk_drewN ?_ _ | refine blk_drew ?_ | refine blk_alloc ?_ _)); refine blk_far ?_ NB193_231.out _; (with_reducible repeat (first | refine blk_drewN ?_ _ | refine blk_drew ?_ | refine blk_alloc ?_ _)); exact BK193.out⟩, ⟨by (with_reducible repeat (first | refine blk_drewN ?_ _ | refine blk_drew ?_ | refine blk_alloc ?_ _)); refine blk_far ?_ NB222_231.out _; (with_reducible repeat (first | refine blk_drewN ?_ _ | refine blk_drew ?_ | refine blk_alloc ?_ _)); refine blk_far ?_ NB222_231.out _; (with_reducible repeat (first | refine blk_drewN ?_ _ | refine blk_drew ?_ | refine blk_alloc ?_ _)); refine blk_far ?_ NB222_231.out _; (with_reducible repeat (first | refine blk_drewN ?_ _ | refine blk_drew ?_ | refine blk_alloc ?_ _)); refine blk_far ?_ NB222_231.out _; (with_reducible repeat (first | refine blk_drewN ?_ _ | refine blk_drew ?_ | refine blk_alloc ?_ _)); refine blk_far ?_ NB222_231.out _; (with_reducible repeat (first | refine blk_drewN ?_ _ | refine blk_drew ?_ | refine blk_alloc ?_ _)); refine blk_far ?_ NB222_231.out _; (with_reducible repeat (first | refine blk_drewN ?_ _ | refine blk_drew ?_ | refine blk_alloc ?_ _)); exact BK222.out⟩, ⟨by (with_reducible repeat (first | refine blk_drewN ?_ _ | refine blk_drew ?_ | refine blk_alloc ?_ _)); refine blk_put (cs := #[.int .i64 t224, .int .i64 t225, .int .i64 t226, .int .i64 t227, .int .i64 t228, .string (⟨#[]⟩ : ByteArray)]) ?_ 5 _ rfl; (with_reducible repeat (first | refine blk_drewN ?_ _ | refine blk_drew ?_ | refine blk_alloc ?_ _)); refine blk_put (cs := #[.int .i64 t224, .int .i64 t225, .int .i64 t226, .int .i64 t227, .int .i64 0, .string (⟨#[]⟩ : ByteArray)]) ?_ 4 _ rfl; (with_reducible repeat (first | refine blk_drewN ?_ _ | refine blk_drew ?_ | refine blk_alloc ?_ _)); refine blk_put (cs := #[.int .i64 t224, .int .i64 t225, .int .i64 t226, .int .i64 0, .int .i64 0, .string (⟨#[]⟩ : ByteArray)]) ?_ 3 _ rfl; (with_reducible repeat (first | refine blk_drewN ?_ _ | refine blk_drew ?_ | refine blk_alloc ?_ _)); refine blk_put (cs := #[.int .i64 t224, .int .i64 t225, .int .i64 0, .int .i64 0, .int .i64 0, .string (⟨#[]⟩ : ByteArray)]) ?_ 2 _ rfl; (with_reducible repeat (first | refine blk_drewN ?_ _ | refine blk_drew ?_ | refine blk_alloc ?_ _)); refine blk_put (cs := #[.int .i64 t224, .int .i64 0, .int .i64 0, .int .i64 0, .int .i64 0, .string (⟨#[]⟩ : ByteArray)]) ?_ 1 _ rfl; (with_reducible repeat (first | refine blk_drewN ?_ _ | refine blk_drew ?_ | refine blk_alloc ?_ _)); refine blk_put (cs := #[.int .i64 0, .int .i64 0, .int .i64 0, .int .i64 0, .int .i64 0, .string (⟨#[]⟩ : ByteArray)]) ?_ 0 _ rfl; (with_reducible repeat (first | refine blk_drewN ?_ _ | refine blk_drew ?_ | refine blk_alloc ?_ _)); exact BK231.out⟩, ⟨by repeat (first | (with_reducible first | exact HB.out | apply below_alloc | apply pw_below_drewN | apply below_drew1 | refine below_set ?_ GE193.out | refine below_set ?_ GE222.out | refine below_set ?_ GE231.out) | exact HB.out)⟩⟩
                              · replace c63 := Bool.eq_false_iff.mpr c63
                                subst c63
                                have H1 : ((sledgelaw4_num.f t221).bind fun t233 => (if t232 = 8 then (sledgelaw4_BitsWord.j6 k4 x3_2 x11_4 (!(t215 == t224) || (!(t216 == t225) || (!(t217 == t226) || (!(t218 == t227) || (!(t219 == t228) || (!(t220.toList == t229.toList)))))))) else (sledgelaw4_BitsWord.j6 k4 x3_2 x11_4 true))) = some r := by rw [if_neg (show ¬ (false = true) by decide)] at H; exact H
                                clear H
                                have H := H1
                                clear H1
                                replace H := Option.bind_eq_some_iff.mp H
                                obtain ⟨t233, A690, H⟩ := H
                                replace H : (if t232 = 8 then (sledgelaw4_BitsWord.j6 k4 x3_2 x11_4 (!(t215 == t224) || (!(t216 == t225) || (!(t217 == t226) || (!(t218 == t227) || (!(t219 == t228) || (!(t220.toList == t229.toList)))))))) else (sledgelaw4_BitsWord.j6 k4 x3_2 x11_4 true)) = some r := H
                                have A69 := Aside0.mk A690
                                clear A690
                                obtain rfl : t232 = t233 := Option.some.inj (A61.out.symm.trans A69.out)
                                by_cases c70 : t232 = 8
                                · rw [if_pos c70] at H
                                  have c70b0 : (t232 == 8) = true := beq_iff_eq.mpr c70
                                  have c70b1 : (t232 != 8) = false := bne_eq_false_iff_eq.mpr c70
                                  clear c70
                                  have H' := Aside0.mk H
                                  clear H
                                  go_wp2_with (first | ((with_reducible refine gate_callee (f := 11) rfl ?_); refine goesL_ (some 100) rfl rfl Try.func11 (by kernel_rfl) rfl #[.int .i64 t221] rfl (by (try simp only [List.map_toArray, List.map_cons, List.map_nil]); first | done | rfl | (simp only [List.length_drop, List.length_take]; rfl)) ?_; (with_reducible refine (sledgelaw4_num.calls t221 t232 _ A61.out).mono ?_); rintro e w' ⟨rfl, ⟨nd, rfl⟩⟩; refine ⟨_, rfl, ?_⟩) | (go_at_call 11; (with_reducible refine (sledgelaw4_num.calls t221 t232 _ A69.out).mono ?_); rintro e w' ⟨rfl, ⟨nd, rfl⟩⟩; have hnb71 := NB222_193.out; have hnc71 := NB193_222.out; have hnb72 := NB222_231.out; have hnc72 := NB231_222.out; have hcz73_0 : w57.cell? ⟨gb222, 0, none⟩ = some (.int .i64 t215) := (blk_cell BK222.out 0).trans rfl; have hcz73_1 : w57.cell? ⟨gb222, 1, none⟩ = some (.int .i64 t216) := (blk_cell BK222.out 1).trans rfl; have hcz73_2 : w57.cell? ⟨gb222, 2, none⟩ = some (.int .i64 t217) := (blk_cell BK222.out 2).trans rfl; have hcz73_3 : w57.cell? ⟨gb222, 3, none⟩ = some (.int .i64 t218) := (blk_cell BK222.out 3).trans rfl; have hcz73_4 : w57.cell? ⟨gb222, 4, none⟩ = some (.int .i64 t219) := (blk_cell BK222.out 4).trans rfl; have hcz73_5 : w57.cell? ⟨gb222, 5, none⟩ = some (.string t220) := (blk_cell BK222.out 5).trans rfl; have hfz73_0 := blk_frozen BK222.out 0; have hfz73_1 := blk_frozen BK222.out 1; have hfz73_2 := blk_frozen BK222.out 2; have hfz73_3 := blk_frozen BK222.out 3; have hfz73_4 := blk_frozen BK222.out 4; have hfz73_5 := blk_frozen BK222.out 5; have hnb74 := NB231_193.out; have hnc74 := NB193_231.out; have hcz75_0 : w57.cell? ⟨gb231, 0, none⟩ = some (.int .i64 0) := (blk_cell BK231.out 0).trans rfl; have hcz75_1 : w57.cell? ⟨gb231, 1, none⟩ = some (.int .i64 0) := (blk_cell BK231.out 1).trans rfl; have hcz75_2 : w57.cell? ⟨gb231, 2, none⟩ = some (.int .i64 0) := (blk_cell BK231.out 2).trans rfl; have hcz75_3 : w57.cell? ⟨gb231, 3, none⟩ = some (.int .i64 0) := (blk_cell BK231.out 3).trans rfl; have hcz75_4 : w57.cell? ⟨gb231, 4, none⟩ = some (.int .i64 0) := (blk_cell BK231.out 4).trans rfl; have hcz75_5 : w57.cell? ⟨gb231, 5, none⟩ = some (.string (⟨#[]⟩ : ByteArray)) := (blk_cell BK231.out 5).trans rfl; have hfz75_0 := blk_frozen BK231.out 0; have hfz75_1 := blk_frozen BK231.out 1; have hfz75_2 := blk_frozen BK231.out 2; have hfz75_3 := blk_frozen BK231.out 3; have hfz75_4 := blk_frozen BK231.out 4; have hfz75_5 := blk_frozen BK231.out 5))
                                  go_meet
                                  case rel => exact ⟨_, ((!(t215 == t224) || (!(t216 == t225) || (!(t217 == t226) || (!(t218 == t227) || (!(t219 == t228) || (!(t220.toList == t229.toList)))))))), (by first | rfl | (simp; done) | (simp [*]; done) | (congr 1; rw [Bool.eq_iff_iff]; simp; done)), H', ⟨by have := HJ2.out; have := HK2.out; have := HJ12.out; have := HK4.out; first | omega | exact Nat.le_refl _⟩, ⟨by (with_reducible repeat (first | apply Kd.R_alloc | apply Kd.R_drewN | apply Kd.R_drew)); exact Kd.R_mono (Kd.R_far (p := ⟨gb231, 5, none⟩) (Kd.R_far (p := ⟨gb231, 4, none⟩) (Kd.R_far (p := ⟨gb231, 3, none⟩) (Kd.R_far (p := ⟨gb231, 2, none⟩) (Kd.R_far (p := ⟨gb231, 1, none⟩) (Kd.R_far (p := ⟨gb231, 0, none⟩) (Kd.R_types HO_3.out BK231.out (by decide)) (fun _ hk => hk.2) (.int .i64 t224)) (fun _ hk => hk.2) (.int .i64 t225)) (fun _ hk => hk.2) (.int .i64 t226)) (fun _ hk => hk.2) (.int .i64 t227)) (fun _ hk => hk.2) (.int .i64 t228)) (fun _ hk => hk.2) (.string t229)) (fun _ hk => trivial)⟩, ⟨by (with_reducible repeat (first | refine blk_drewN ?_ _ | refine blk_drew ?_ | refine blk_alloc ?_ _)); refine blk_far ?_ NB193_231.out _; (with_reducible repeat (first | refine blk_drewN ?_ _ | refine blk_drew ?_ | refine blk_alloc ?_ _)); refine blk_far ?_ NB193_231.out _; (with_reducible repeat (first | refine blk_drewN ?_ _ | refine blk_drew ?_ | refine blk_alloc ?_ _)); refine blk_far ?_ NB193_231.out _; (with_reducible repeat (first | refine blk_drewN ?_ _ | refine blk_drew ?_ | refine blk_alloc ?_ _)); refine blk_far ?_ NB193_231.out _; (with_reducible repeat (first | refine blk_drewN ?_ _ | refine blk_drew ?_ | refine blk_alloc ?_ _)); refine blk_far ?_ NB193_231.out _; (with_reducible repeat (first | refine blk_drewN ?_ _ | refine blk_drew ?_ | refine blk_alloc ?_ _)); refine blk_far ?_ NB193_231.out _; (with_reducible repeat (first | refine blk_drewN ?_ _ | refine blk_drew ?_ | refine blk_alloc ?_ _)); exact BK193.out⟩, ⟨by (with_reducible repeat (first | refine blk_drewN ?_ _ | refine blk_drew ?_ | refine blk_alloc ?_ _)); refine blk_far ?_ NB222_231.out _; (with_reducible repeat (first | refine blk_drewN ?_ _ | refine blk_drew ?_ | refine blk_alloc ?_ _)); refine blk_far ?_ NB222_231.out _; (with_reducible repeat (first | refine blk_drewN ?_ _ | refine blk_drew ?_ | refine blk_alloc ?_ _)); refine blk_far ?_ NB222_231.out _; (with_reducible repeat (first | refine blk_drewN ?_ _ | refine blk_drew ?_ | refine blk_alloc ?_ _)); refine blk_far ?_ NB222_231.out _; (with_reducible repeat (first | refine blk_drewN ?_ _ | refine blk_drew ?_ | refine blk_alloc ?_ _)); refine blk_far ?_ NB222_231.out _; (with_reducible repeat (first | refine blk_drewN ?_ _ | refine blk_drew ?_ | refine blk_alloc ?_ _)); refine blk_far ?_ NB222_231.out _; (with_reducible repeat (first | refine blk_drewN ?_ _ | refine blk_drew ?_ | refine blk_alloc ?_ _)); exact BK222.out⟩, ⟨by (with_reducible repeat (first | refine blk_drewN ?_ _ | refine blk_drew ?_ | refine blk_alloc ?_ _)); refine blk_put (cs := #[.int .i64 t224, .int .i64 t225, .int .i64 t226, .int .i64 t227, .int .i64 t228, .string (⟨#[]⟩ : ByteArray)]) ?_ 5 _ rfl; (with_reducible repeat (first | refine blk_drewN ?_ _ | refine blk_drew ?_ | refine blk_alloc ?_ _)); refine blk_put (cs := #[.int .i64 t224, .int .i64 t225, .int .i64 t226, .int .i64 t227, .int .i64 0, .string (⟨#[]⟩ : ByteArray)]) ?_ 4 _ rfl; (with_reducible repeat (first | refine blk_drewN ?_ _ | refine blk_drew ?_ | refine blk_alloc ?_ _)); refine blk_put (cs := #[.int .i64 t224, .int .i64 t225, .int .i64 t226, .int .i64 0, .int .i64 0, .string (⟨#[]⟩ : ByteArray)]) ?_ 3 _ rfl; (with_reducible repeat (first | refine blk_drewN ?_ _ | refine blk_drew ?_ | refine blk_alloc ?_ _)); refine blk_put (cs := #[.int .i64 t224, .int .i64 t225, .int .i64 0, .int .i64 0, .int .i64 0, .string (⟨#[]⟩ : ByteArray)]) ?_ 2 _ rfl; (with_reducible repeat (first | refine blk_drewN ?_ _ | refine blk_drew ?_ | refine blk_alloc ?_ _)); refine blk_put (cs := #[.int .i64 t224, .int .i64 0, .int .i64 0, .int .i64 0, .int .i64 0, .string (⟨#[]⟩ : ByteArray)]) ?_ 1 _ rfl; (with_reducible repeat (first | refine blk_drewN ?_ _ | refine blk_drew ?_ | refine blk_alloc ?_ _)); refine blk_put (cs := #[.int .i64 0, .int .i64 0, .int .i64 0, .int .i64 0, .int .i64 0, .string (⟨#[]⟩ : ByteArray)]) ?_ 0 _ rfl; (with_reducible repeat (first | refine blk_drewN ?_ _ | refine blk_drew ?_ | refine blk_alloc ?_ _)); exact BK231.out⟩, ⟨by repeat (first | (with_reducible first | exact HB.out | apply below_alloc | apply pw_below_drewN | apply below_drew1 | refine below_set ?_ GE193.out | refine below_set ?_ GE222.out | refine below_set ?_ GE231.out) | exact HB.out)⟩⟩
                                · rw [if_neg c70] at H
                                  have c70b0 : (t232 == 8) = false := beq_eq_false_iff_ne.mpr c70
                                  have c70b1 : (t232 != 8) = true := bne_iff_ne.mpr c70
                                  have H' := Aside0.mk H
                                  clear H
                                  go_wp2_with (first | ((with_reducible refine gate_callee (f := 11) rfl ?_); refine goesL_ (some 100) rfl rfl Try.func11 (by kernel_rfl) rfl #[.int .i64 t221] rfl (by (try simp only [List.map_toArray, List.map_cons, List.map_nil]); first | done | rfl | (simp only [List.length_drop, List.length_take]; rfl)) ?_; (with_reducible refine (sledgelaw4_num.calls t221 t232 _ A61.out).mono ?_); rintro e w' ⟨rfl, ⟨nd, rfl⟩⟩; refine ⟨_, rfl, ?_⟩) | (go_at_call 11; (with_reducible refine (sledgelaw4_num.calls t221 t232 _ A69.out).mono ?_); rintro e w' ⟨rfl, ⟨nd, rfl⟩⟩))
                                  go_meet
                                  case rel => exact ⟨_, (true), (by first | rfl | (simp; done) | (simp [*]; done) | (congr 1; rw [Bool.eq_iff_iff]; simp; done)), H', ⟨by have := HJ2.out; have := HK2.out; have := HJ12.out; have := HK4.out; first | omega | exact Nat.le_refl _⟩, ⟨by (with_reducible repeat (first | apply Kd.R_alloc | apply Kd.R_drewN | apply Kd.R_drew)); exact Kd.R_mono (Kd.R_far (p := ⟨gb231, 5, none⟩) (Kd.R_far (p := ⟨gb231, 4, none⟩) (Kd.R_far (p := ⟨gb231, 3, none⟩) (Kd.R_far (p := ⟨gb231, 2, none⟩) (Kd.R_far (p := ⟨gb231, 1, none⟩) (Kd.R_far (p := ⟨gb231, 0, none⟩) (Kd.R_types HO_3.out BK231.out (by decide)) (fun _ hk => hk.2) (.int .i64 t224)) (fun _ hk => hk.2) (.int .i64 t225)) (fun _ hk => hk.2) (.int .i64 t226)) (fun _ hk => hk.2) (.int .i64 t227)) (fun _ hk => hk.2) (.int .i64 t228)) (fun _ hk => hk.2) (.string t229)) (fun _ hk => trivial)⟩, ⟨by (with_reducible repeat (first | refine blk_drewN ?_ _ | refine blk_drew ?_ | refine blk_alloc ?_ _)); refine blk_far ?_ NB193_231.out _; (with_reducible repeat (first | refine blk_drewN ?_ _ | refine blk_drew ?_ | refine blk_alloc ?_ _)); refine blk_far ?_ NB193_231.out _; (with_reducible repeat (first | refine blk_drewN ?_ _ | refine blk_drew ?_ | refine blk_alloc ?_ _)); refine blk_far ?_ NB193_231.out _; (with_reducible repeat (first | refine blk_drewN ?_ _ | refine blk_drew ?_ | refine blk_alloc ?_ _)); refine blk_far ?_ NB193_231.out _; (with_reducible repeat (first | refine blk_drewN ?_ _ | refine blk_drew ?_ | refine blk_alloc ?_ _)); refine blk_far ?_ NB193_231.out _; (with_reducible repeat (first | refine blk_drewN ?_ _ | refine blk_drew ?_ | refine blk_alloc ?_ _)); refine blk_far ?_ NB193_231.out _; (with_reducible repeat (first | refine blk_drewN ?_ _ | refine blk_drew ?_ | refine blk_alloc ?_ _)); exact BK193.out⟩, ⟨by (with_reducible repeat (first | refine blk_drewN ?_ _ | refine blk_drew ?_ | refine blk_alloc ?_ _)); refine blk_far ?_ NB222_231.out _; (with_reducible repeat (first | refine blk_drewN ?_ _ | refine blk_drew ?_ | refine blk_alloc ?_ _)); refine blk_far ?_ NB222_231.out _; (with_reducible repeat (first | refine blk_drewN ?_ _ | refine blk_drew ?_ | refine blk_alloc ?_ _)); refine blk_far ?_ NB222_231.out _; (with_reducible repeat (first | refine blk_drewN ?_ _ | refine blk_drew ?_ | refine blk_alloc ?_ _)); refine blk_far ?_ NB222_231.out _; (with_reducible repeat (first | refine blk_drewN ?_ _ | refine blk_drew ?_ | refine blk_alloc ?_ _)); refine blk_far ?_ NB222_231.out _; (with_reducible repeat (first | refine blk_drewN ?_ _ | refine blk_drew ?_ | refine blk_alloc ?_ _)); refine blk_far ?_ NB222_231.out _; (with_reducible repeat (first | refine blk_drewN ?_ _ | refine blk_drew ?_ | refine blk_alloc ?_ _)); exact BK222.out⟩, ⟨by (with_reducible repeat (first | refine blk_drewN ?_ _ | refine blk_drew ?_ | refine blk_alloc ?_ _)); refine blk_put (cs := #[.int .i64 t224, .int .i64 t225, .int .i64 t226, .int .i64 t227, .int .i64 t228, .string (⟨#[]⟩ : ByteArray)]) ?_ 5 _ rfl; (with_reducible repeat (first | refine blk_drewN ?_ _ | refine blk_drew ?_ | refine blk_alloc ?_ _)); refine blk_put (cs := #[.int .i64 t224, .int .i64 t225, .int .i64 t226, .int .i64 t227, .int .i64 0, .string (⟨#[]⟩ : ByteArray)]) ?_ 4 _ rfl; (with_reducible repeat (first | refine blk_drewN ?_ _ | refine blk_drew ?_ | refine blk_alloc ?_ _)); refine blk_put (cs := #[.int .i64 t224, .int .i64 t225, .int .i64 t226, .int .i64 0, .int .i64 0, .string (⟨#[]⟩ : ByteArray)]) ?_ 3 _ rfl; (with_reducible repeat (first | refine blk_drewN ?_ _ | refine blk_drew ?_ | refine blk_alloc ?_ _)); refine blk_put (cs := #[.int .i64 t224, .int .i64 t225, .int .i64 0, .int .i64 0, .int .i64 0, .string (⟨#[]⟩ : ByteArray)]) ?_ 2 _ rfl; (with_reducible repeat (first | refine blk_drewN ?_ _ | refine blk_drew ?_ | refine blk_alloc ?_ _)); refine blk_put (cs := #[.int .i64 t224, .int .i64 0, .int .i64 0, .int .i64 0, .int .i64 0, .string (⟨#[]⟩ : ByteArray)]) ?_ 1 _ rfl; (with_reducible repeat (first | refine blk_drewN ?_ _ | refine blk_drew ?_ | refine blk_alloc ?_ _)); refine blk_put (cs := #[.int .i64 0, .int .i64 0, .int .i64 0, .int .i64 0, .int .i64 0, .string (⟨#[]⟩ : ByteArray)]) ?_ 0 _ rfl; (with_reducible repeat (first | refine blk_drewN ?_ _ | refine blk_drew ?_ | refine blk_alloc ?_ _)); exact BK231.out⟩, ⟨by repeat (first | (with_reducible first | exact HB.out | apply below_alloc | apply pw_below_drewN | apply below_drew1 | refine below_set ?_ GE193.out | refine below_set ?_ GE222.out | refine below_set ?_ GE231.out) | exact HB.out)⟩⟩
                          case rest =>
                            clear HC50
                            try clear c1
                            try clear q1
                            try clear c2
                            try clear p2
                            try clear q2
                            try clear hx2
                            try clear c3
                            try clear c4
                            try clear c5
                            try clear c6
                            try clear p6
                            try clear c7
                            try clear c8
                            try clear c9
                            try clear c10
                            try clear c10b0
                            try clear c10b1
                            try clear c11
                            try clear c11b0
                            try clear c11b1
                            try clear c12
                            try clear q12
                            try clear c13
                            try clear c14
                            try clear c14b0
                            try clear c17
                            try clear c18
                            try clear c18b0
                            try clear c19
                            try clear c19b0
                            try clear p20
                            try clear q20
                            try clear hx20
                            try clear p21
                            try clear q21
                            try clear hx21
                            try clear p22
                            try clear q22
                            try clear hx22
                            try clear c25
                            try clear c30
                            try clear c31
                            try clear c31b0
                            try clear c31b1
                            try clear c33
                            try clear c36
                            try clear c36b0
                            try clear c37
                            try clear c37b0
                            try clear c37b1
                            try clear c39
                            try clear c41
                            try clear c44
                            try clear c44b0
                            try clear c44b1
                            try clear c45
                            try clear c45b0
                            try clear c45b1
                            try clear c46
                            try clear c46b0
                            try clear c47
                            try clear c47b0
                            try clear c54
                            try clear c58
                            try clear c59
                            try clear c62
                            try clear c62b0
                            try clear c62b1
                            try clear c62b2
                            try clear c63
                            try clear c64
                            try clear p64
                            try clear c65
                            try clear c67
                            try clear c70
                            try clear c70b0
                            try clear c70b1
                            try clear c71
                            try clear c72
                            try clear c74
                            try clear hcz15_0
                            try clear hcz15_1
                            try clear hcz15_2
                            try clear hcz15_3
                            try clear hcz15_4
                            try clear hcz16_0
                            try clear hcz16_1
                            try clear hcz16_2
                            try clear hcz16_3
                            try clear hcz16_4
                            try clear hcz23_0
                            try clear hcz23_1
                            try clear hcz23_2
                            try clear hcz23_3
                            try clear hcz23_4
                            try clear hcz26_0
                            try clear hcz26_1
                            try clear hcz26_2
                            try clear hcz26_3
                            try clear hcz26_4
                            try clear hcz26_5
                            try clear hcz28_0
                            try clear hcz28_1
                            try clear hcz28_2
                            try clear hcz28_3
                            try clear hcz28_4
                            try clear hcz28_5
                            try clear hcz34_0
                            try clear hcz34_1
                            try clear hcz34_2
                            try clear hcz34_3
                            try clear hcz34_4
                            try clear hcz34_5
                            try clear hcz42_0
                            try clear hcz42_1
                            try clear hcz42_2
                            try clear hcz42_3
                            try clear hcz42_4
                            try clear hcz42_5
                            try clear hcz55_0
                            try clear hcz55_1
                            try clear hcz55_2
                            try clear hcz55_3
                            try clear hcz55_4
                            try clear hcz55_5
                            try clear hcz60_0
                            try clear hcz60_1
                            try clear hcz60_2
                            try clear hcz60_3
                            try clear hcz60_4
                            try clear hcz60_5
                            try clear hcz66_0
                            try clear hcz66_1
                            try clear hcz66_2
                            try clear hcz66_3
                            try clear hcz66_4
                            try clear hcz66_5
                            try clear hcz68_0
                            try clear hcz68_1
                            try clear hcz68_2
                            try clear hcz68_3
                            try clear hcz68_4
                            try clear hcz68_5
                            try clear hcz73_0
                            try clear hcz73_1
                            try clear hcz73_2
                            try clear hcz73_3
                            try clear hcz73_4
                            try clear hcz73_5
                            try clear hcz75_0
                            try clear hcz75_1
                            try clear hcz75_2
                            try clear hcz75_3
                            try clear hcz75_4
                            try clear hcz75_5
                            try clear hcz7_0
                            try clear hcz7_1
                            try clear hcz7_2
                            try clear hcz7_3
                            try clear hcz7_4
                            try clear hfz15_0
                            try clear hfz15_1
                            try clear hfz15_2
                            try clear hfz15_3
                            try clear hfz15_4
                            try clear hfz16_0
                            try clear hfz16_1
                            try clear hfz16_2
                            try clear hfz16_3
                            try clear hfz16_4
                            try clear hfz23_0
                            try clear hfz23_1
                            try clear hfz23_2
                            try clear hfz23_3
                            try clear hfz23_4
                            try clear hfz26_0
                            try clear hfz26_1
                            try clear hfz26_2
                            try clear hfz26_3
                            try clear hfz26_4
                            try clear hfz26_5
                            try clear hfz28_0
                            try clear hfz28_1
                            try clear hfz28_2
                            try clear hfz28_3
                            try clear hfz28_4
                            try clear hfz28_5
                            try clear hfz34_0
                            try clear hfz34_1
                            try clear hfz34_2
                            try clear hfz34_3
                            try clear hfz34_4
                            try clear hfz34_5
                            try clear hfz42_0
                            try clear hfz42_1
                            try clear hfz42_2
                            try clear hfz42_3
                            try clear hfz42_4
                            try clear hfz42_5
                            try clear hfz55_0
                            try clear hfz55_1
                            try clear hfz55_2
                            try clear hfz55_3
                            try clear hfz55_4
                            try clear hfz55_5
                            try clear hfz60_0
                            try clear hfz60_1
                            try clear hfz60_2
                            try clear hfz60_3
                            try clear hfz60_4
                            try clear hfz60_5
                            try clear hfz66_0
                            try clear hfz66_1
                            try clear hfz66_2
                            try clear hfz66_3
                            try clear hfz66_4
                            try clear hfz66_5
                            try clear hfz68_0
                            try clear hfz68_1
                            try clear hfz68_2
                            try clear hfz68_3
                            try clear hfz68_4
                            try clear hfz68_5
                            try clear hfz73_0
                            try clear hfz73_1
                            try clear hfz73_2
                            try clear hfz73_3
                            try clear hfz73_4
                            try clear hfz73_5
                            try clear hfz75_0
                            try clear hfz75_1
                            try clear hfz75_2
                            try clear hfz75_3
                            try clear hfz75_4
                            try clear hfz75_5
                            try clear hfz7_0
                            try clear hfz7_1
                            try clear hfz7_2
                            try clear hfz7_3
                            try clear hfz7_4
                            try clear hx203_0
                            try clear hx203_1
                            try clear hx203_2
                            try clear hx203_3
                            try clear hx203_4
                            try clear hx203_5
                            try clear hx214_0
                            try clear hx223_0
                            try clear p2
                            try clear p20
                            try clear p203
                            try clear p214
                            try clear p223
                            try clear p6
                            try clear q1
                            try clear q12
                            try clear q2
                            try clear q20
                            try clear q203
                            try clear q214
                            try clear q223
                            obtain ⟨kq, x116_49, rfl, HA, HJ49, HO_3, BK193, BK222, BK231, HB⟩ := hcut
                            cases kq with
                            | zero => exact absurd HA.out (by simp [sledgelaw4_BitsWord.j6])
                            | succ kj49 =>
                              have H := HA.out
                              clear HA
                              simp only [sledgelaw4_BitsWord.j6] at H
                              by_cases c76 : x116_49 = true
                              · subst c76
                                have H1 : (some false) = some r := by rw [if_pos rfl] at H; exact H
                                clear H
                                have H := H1
                                clear H1
                                obtain rfl := Option.some.inj H
                                go_wp2
                                go_ret
                                exact ⟨by first | rfl | (simp [errW_none, errW_some] <;> rfl) | (simp [*, errW_none, errW_some] <;> rfl), by repeat (first | (with_reducible first | exact HB.out | apply below_alloc | apply pw_below_drewN | apply below_drew1 | refine below_set ?_ GE193.out | refine below_set ?_ GE222.out | refine below_set ?_ GE231.out) | exact HB.out)⟩
                              · replace c76 := Bool.eq_false_iff.mpr c76
                                subst c76
                                have H1 : (sledgelaw4_BitsWord.l2 kj49 x3_2 (wrap64 (x11_4 + 1))) = some r := by rw [if_neg (show ¬ (false = true) by decide)] at H; exact H
                                clear H
                                have H := H1
                                clear H1
                                have H' := Aside0.mk H
                                clear H
                                go_wp2
                                go_roundg kj49
                                case measure => have := HJ2.out; have := HK2.out; have := HJ12.out; have := HK4.out; have := HJ49.out; omega
                                case rel => exact ⟨(wrap64 (x11_4 + 1)), (by first | rfl | (simp; done) | (simp [*]; done) | (congr 1; rw [Bool.eq_iff_iff]; simp; done)), H', ⟨by have := HJ2.out; have := HK2.out; have := HJ12.out; have := HK4.out; have := HJ49.out; omega⟩, ⟨by (with_reducible repeat (first | apply Kd.R_alloc | apply Kd.R_drewN | apply Kd.R_drew)); exact HO_3.out⟩, ⟨by (with_reducible repeat (first | refine blk_drewN ?_ _ | refine blk_drew ?_ | refine blk_alloc ?_ _)); exact BK193.out⟩, ⟨by repeat (first | (with_reducible first | exact HB.out | apply below_alloc | apply pw_below_drewN | apply below_drew1 | refine below_set ?_ GE193.out | refine below_set ?_ GE222.out | refine below_set ?_ GE231.out) | exact HB.out)⟩⟩
                        · rw [if_neg c47] at H
                          exact absurd H (by simp)
                      · rw [if_neg c46] at H
                        have c46b0 : decide (x11_4 < (x3_2.length : Int)) = false := decide_eq_false c46
                        clear c46
                        replace H := Option.bind_eq_some_iff.mp H
                        obtain ⟨t213, A770, H⟩ := H
                        replace H : (some t213) = some r := H
                        have A77 := Aside0.mk A770
                        clear A770
                        obtain rfl := Option.some.inj H
                        obtain ⟨Ao78, co78, eo78⟩ := Kd.R_slice HO_3.out
                        subst eo78
                        go_wp2_with (first | ((with_reducible refine gate_callee (f := 14) rfl ?_); refine goesL_ (some 117) rfl rfl Try.func14 (by kernel_rfl) rfl #[] rfl (by (try simp only [List.map_toArray, List.map_cons, List.map_nil]); first | done | rfl | (simp only [List.length_drop, List.length_take]; rfl)) ?_; (with_reducible refine (sledgelaw4_wakes.calls k4  t213 _ A77.out).mono ?_); rintro e w79 ⟨rfl, hb⟩; refine ⟨_, rfl, ?_⟩; have n0_ := Aside0.mk (Kd.R_below (by (with_reducible repeat (first | apply Kd.R_alloc | apply Kd.R_drewN | apply Kd.R_drew)); exact HO_3.out) hb); have n1_ := Aside0.mk (blk_below (g := gb193) (o := .cells #[.slice A0_0 l0_0.length c0_0, .slice A0_1 l0_1.length c0_1, .slice A0_2 l0_2.length c0_2, .slice A0_3 l0_3.length c0_3, .slice A0_4 l0_4.length c0_4] 32 (0, 0)) (by (with_reducible repeat (first | refine blk_drewN ?_ _ | refine blk_drew ?_ | refine blk_alloc ?_ _)); exact BK193.out) hb); have n2_ := Aside0.mk (below_step (by repeat (first | (with_reducible first | exact HB.out | apply below_alloc | apply pw_below_drewN | apply below_drew1 | refine below_set ?_ GE193.out) | exact HB.out)) hb); clear HO_3; clear BK193; clear HB; have HO_3 := n0_; have BK193 := n1_; have HB := n2_; clear n0_ n1_ n2_; (try clear hb); (try clear hb2); (try clear hk); (try clear hi)))
                        go_ret
                        exact ⟨by first | rfl | (simp [errW_none, errW_some] <;> rfl) | (simp [*, errW_none, errW_some] <;> rfl), by repeat (first | (with_reducible first | exact HB.out | apply below_alloc | apply pw_below_drewN | apply below_drew1 | refine below_set ?_ GE193.out) | exact HB.out)⟩
  · rw [if_neg c2] at H
    exact absurd H (by simp)

end Go.Proofs.Ytfnchdlgkkdegaa.PAll
