-- written by this session's changed print (wip/myprint)
import Derived.Test.YtfnchdlgkkdegaaPAllx0
import Derived.Test.YtfnchdlgkkdegaaPAllx1
import Derived.Test.YtfnchdlgkkdegaaPAllx6
import Derived.Test.YtfnchdlgkkdegaaPAllx8
import Derived.Test.YtfnchdlgkkdegaaPAllx9
import Derived.Test.YtfnchdlgkkdegaaPAllx11
namespace Go.Proofs.Ytfnchdlgkkdegaa.PAll
open Go.RowKit Go.Proofs.YtfnchdlgkkdegaaW.PrintWords Go.Proofs.YtfnchdlgkkdegaaW.PrintLast Go.Proofs.YtfnchdlgkkdegaaW.PrintMore
attribute [local go_sem] max2_int min2_int max_two min_two max_three min_three max_four min_four   -- for this text's walks alone
set_option linter.unusedVariables false
set_option linter.unusedSimpArgs false

attribute [local go_sem high] eqA35
/-! ### sledgelaw4_BitsEach: function 4 -/
mutual
def sledgelaw4_BitsEach.l0 : Nat → Int → List (S35) → List ByteArray → List Int → List Int → List (S52) → Option (Bool)
  | 0, _, _, _, _, _, _ => none
  | k + 1, x3, x235000, x235001, x235002, x235003, x235004 => if x3 ≤ 33 then ((sledgeref3_Form.f x3).bind fun t236 => (sledgelaw4_BitsEach.l1 k x3 t236 0 x235000 x235001 x235002 x235003 x235004)) else ((sledgelaw4_wakes.f k).bind fun t235 => (some t235))
def sledgelaw4_BitsEach.l1 : Nat → Int → Int → Int → List (S35) → List ByteArray → List Int → List Int → List (S52) → Option (Bool)
  | 0, _, _, _, _, _, _, _, _ => none
  | k + 1, x3, x4, x5, x235000, x235001, x235002, x235003, x235004 => if x5 < 24 then ((sledgeref3_HasD.f x4).bind fun t238 => (if t238 = true then (sledgelaw4_BitsEach.j2 k x3 x4 x5 x235000 x235001 x235002 x235003 x235004 x3 (Int.tmod (wrap64 (x5 * 7)) 16) 0 0 0 (⟨#[]⟩ : ByteArray)) else (sledgelaw4_BitsEach.j2 k x3 x4 x5 x235000 x235001 x235002 x235003 x235004 x3 0 0 0 0 (⟨#[]⟩ : ByteArray)))) else (sledgelaw4_BitsEach.l0 k (wrap64 (x3 + 1)) x235000 x235001 x235002 x235003 x235004)
def sledgelaw4_BitsEach.j2 : Nat → Int → Int → Int → List (S35) → List ByteArray → List Int → List Int → List (S52) → Int → Int → Int → Int → Int → ByteArray → Option (Bool)
  | 0, _, _, _, _, _, _, _, _, _, _, _, _, _, _ => none
  | k + 1, x3, x4, x5, x235000, x235001, x235002, x235003, x235004, x238000, x238001, x238002, x238003, x238004, x238005 => (sledgeref3_HasA.f x4).bind fun t239 => (if t239 = true then (sledgelaw4_BitsEach.j3 k x3 x4 x5 x235000 x235001 x235002 x235003 x235004 x238000 x238001 (Int.tmod (wrap64 ((wrap64 (x5 + (x235004.length : Int))) * 5)) 16) x238003 x238004 x238005) else (sledgelaw4_BitsEach.j3 k x3 x4 x5 x235000 x235001 x235002 x235003 x235004 x238000 x238001 x238002 x238003 x238004 x238005))
def sledgelaw4_BitsEach.j3 : Nat → Int → Int → Int → List (S35) → List ByteArray → List Int → List Int → List (S52) → Int → Int → Int → Int → Int → ByteArray → Option (Bool)
  | 0, _, _, _, _, _, _, _, _, _, _, _, _, _, _ => none
  | k + 1, x3, x4, x5, x235000, x235001, x235002, x235003, x235004, x238000, x238001, x238002, x238003, x238004, x238005 => (sledgeref3_HasB.f x4).bind fun t240 => (if t240 = true then (sledgelaw4_BitsEach.j4 k x3 x4 x5 x235000 x235001 x235002 x235003 x235004 x238000 x238001 x238002 (Int.tmod (wrap64 (x5 * 3)) 16) x238004 x238005) else (sledgelaw4_BitsEach.j4 k x3 x4 x5 x235000 x235001 x235002 x235003 x235004 x238000 x238001 x238002 x238003 x238004 x238005))
def sledgelaw4_BitsEach.j4 : Nat → Int → Int → Int → List (S35) → List ByteArray → List Int → List Int → List (S52) → Int → Int → Int → Int → Int → ByteArray → Option (Bool)
  | 0, _, _, _, _, _, _, _, _, _, _, _, _, _, _ => none
  | k + 1, x3, x4, x5, x235000, x235001, x235002, x235003, x235004, x238000, x238001, x238002, x238003, x238004, x238005 => (sledgeref3_Bits.f k x4).bind fun t241 => (if t241 > 0 then (if 0 ≤ (wrap64 (t241 - 1)) then ((some (([0, 1, wrap64 ((shl .i64 1 (wrap64 (t241 - 1))) - 1), (-1), wrap64 (-(shl .i64 1 (wrap64 (t241 - 1)))), wrap64 (Int.tdiv (shl .i64 1 (wrap64 (t241 - 1))) 2)] : List Int) : List Int)).bind fun y242 => (if 0 ≤ (Int.tmod x5 6) then (if (Int.tmod x5 6) < (y242.length : Int) then ((sledgeref3_Target.f x4).bind fun t246 => (if t246 = true then ((some (([0, 1, 1023, 2, 77, 512] : List Int) : List Int)).bind fun y247 => (if (Int.tmod x5 6) < (y247.length : Int) then (sledgelaw4_BitsEach.j5 k x3 x4 x5 x235000 x235001 x235002 x235003 x235004 x238000 x238001 x238002 x238003 (rd y247 (Int.tmod x5 6)) x238005) else (none))) else (sledgelaw4_BitsEach.j5 k x3 x4 x5 x235000 x235001 x235002 x235003 x235004 x238000 x238001 x238002 x238003 (rd y242 (Int.tmod x5 6)) x238005))) else (none)) else (none))) else (none)) else (sledgelaw4_BitsEach.j5 k x3 x4 x5 x235000 x235001 x235002 x235003 x235004 x238000 x238001 x238002 x238003 x238004 x238005))
def sledgelaw4_BitsEach.j5 : Nat → Int → Int → Int → List (S35) → List ByteArray → List Int → List Int → List (S52) → Int → Int → Int → Int → Int → ByteArray → Option (Bool)
  | 0, _, _, _, _, _, _, _, _, _, _, _, _, _, _ => none
  | k + 1, x3, x4, x5, x235000, x235001, x235002, x235003, x235004, x238000, x238001, x238002, x238003, x238004, x238005 => (bits_Word.f k x238000 x238001 x238002 x238003 x238004 x238005).bind fun bt251 => ((bits_Ins.f k bt251.1).bind fun bt253 => ((sledgeref3_Ins.f k x238000 x238001 x238002 x238003 x238004 x238005).bind fun t261 => (if t261 = true then ((sledgelaw4_num.f bt251.2).bind fun t262 => (if t262 = 0 then ((sledgelaw4_num.f bt253.2.2.2.2.2.2).bind fun t263 => (if t263 = 0 then ((sledgeref3_Word.f k x238000 x238001 x238002 x238003 x238004 x238005).bind fun t264 => (if bt251.1 = t264 then (sledgelaw4_BitsEach.j6 k x3 x4 x5 (!(bt253.1 == x238000) || (!(bt253.2.1 == x238001) || (!(bt253.2.2.1 == x238002) || (!(bt253.2.2.2.1 == x238003) || (!(bt253.2.2.2.2.1 == x238004) || (!(bt253.2.2.2.2.2.1.toList == x238005.toList))))))) x235000 x235001 x235002 x235003 x235004) else (sledgelaw4_BitsEach.j6 k x3 x4 x5 true x235000 x235001 x235002 x235003 x235004))) else (sledgelaw4_BitsEach.j6 k x3 x4 x5 true x235000 x235001 x235002 x235003 x235004))) else (sledgelaw4_BitsEach.j6 k x3 x4 x5 true x235000 x235001 x235002 x235003 x235004))) else (sledgelaw4_BitsEach.j6 k x3 x4 x5 true x235000 x235001 x235002 x235003 x235004))))
def sledgelaw4_BitsEach.j6 : Nat → Int → Int → Int → Bool → List (S35) → List ByteArray → List Int → List Int → List (S52) → Option (Bool)
  | 0, _, _, _, _, _, _, _, _, _ => none
  | k + 1, x3, x4, x5, x107, x235000, x235001, x235002, x235003, x235004 => if x107 = true then (some false) else (sledgelaw4_BitsEach.l1 k x3 x4 (wrap64 (x5 + 1)) x235000 x235001 x235002 x235003 x235004)
end
def sledgelaw4_BitsEach.f (k : Nat) (l0_0 : List (S35)) (l0_1 : List ByteArray) (l0_2 : List Int) (l0_3 : List Int) (l0_4 : List (S52)) : Option (Bool) := sledgelaw4_BitsEach.l0 k 0 l0_0 l0_1 l0_2 l0_3 l0_4
theorem sledgelaw4_BitsEach.mono_l : ∀ k, (∀ y0 y1 y2 y3 y4 y5, LeO (sledgelaw4_BitsEach.l0 k y0 y1 y2 y3 y4 y5) (sledgelaw4_BitsEach.l0 (k + 1) y0 y1 y2 y3 y4 y5)) ∧ (∀ y0 y1 y2 y3 y4 y5 y6 y7, LeO (sledgelaw4_BitsEach.l1 k y0 y1 y2 y3 y4 y5 y6 y7) (sledgelaw4_BitsEach.l1 (k + 1) y0 y1 y2 y3 y4 y5 y6 y7)) ∧ (∀ y0 y1 y2 y3 y4 y5 y6 y7 y8 y9 y10 y11 y12 y13, LeO (sledgelaw4_BitsEach.j2 k y0 y1 y2 y3 y4 y5 y6 y7 y8 y9 y10 y11 y12 y13) (sledgelaw4_BitsEach.j2 (k + 1) y0 y1 y2 y3 y4 y5 y6 y7 y8 y9 y10 y11 y12 y13)) ∧ (∀ y0 y1 y2 y3 y4 y5 y6 y7 y8 y9 y10 y11 y12 y13, LeO (sledgelaw4_BitsEach.j3 k y0 y1 y2 y3 y4 y5 y6 y7 y8 y9 y10 y11 y12 y13) (sledgelaw4_BitsEach.j3 (k + 1) y0 y1 y2 y3 y4 y5 y6 y7 y8 y9 y10 y11 y12 y13)) ∧ (∀ y0 y1 y2 y3 y4 y5 y6 y7 y8 y9 y10 y11 y12 y13, LeO (sledgelaw4_BitsEach.j4 k y0 y1 y2 y3 y4 y5 y6 y7 y8 y9 y10 y11 y12 y13) (sledgelaw4_BitsEach.j4 (k + 1) y0 y1 y2 y3 y4 y5 y6 y7 y8 y9 y10 y11 y12 y13)) ∧ (∀ y0 y1 y2 y3 y4 y5 y6 y7 y8 y9 y10 y11 y12 y13, LeO (sledgelaw4_BitsEach.j5 k y0 y1 y2 y3 y4 y5 y6 y7 y8 y9 y10 y11 y12 y13) (sledgelaw4_BitsEach.j5 (k + 1) y0 y1 y2 y3 y4 y5 y6 y7 y8 y9 y10 y11 y12 y13)) ∧ (∀ y0 y1 y2 y3 y4 y5 y6 y7 y8, LeO (sledgelaw4_BitsEach.j6 k y0 y1 y2 y3 y4 y5 y6 y7 y8) (sledgelaw4_BitsEach.j6 (k + 1) y0 y1 y2 y3 y4 y5 y6 y7 y8))
  | 0 => ⟨fun _ _ _ _ _ _ r h => by simp [sledgelaw4_BitsEach.l0] at h, fun _ _ _ _ _ _ _ _ r h => by simp [sledgelaw4_BitsEach.l1] at h, fun _ _ _ _ _ _ _ _ _ _ _ _ _ _ r h => by simp [sledgelaw4_BitsEach.j2] at h, fun _ _ _ _ _ _ _ _ _ _ _ _ _ _ r h => by simp [sledgelaw4_BitsEach.j3] at h, fun _ _ _ _ _ _ _ _ _ _ _ _ _ _ r h => by simp [sledgelaw4_BitsEach.j4] at h, fun _ _ _ _ _ _ _ _ _ _ _ _ _ _ r h => by simp [sledgelaw4_BitsEach.j5] at h, fun _ _ _ _ _ _ _ _ _ r h => by simp [sledgelaw4_BitsEach.j6] at h⟩
  | k + 1 => by
    obtain ⟨ih0, ih1, ih2, ih3, ih4, ih5, ih6⟩ := sledgelaw4_BitsEach.mono_l k
    refine ⟨?_, ?_, ?_, ?_, ?_, ?_, ?_⟩
    · intro y0 y1 y2 y3 y4 y5
      unfold sledgelaw4_BitsEach.l0
      repeat' first
      | (with_reducible exact ih0 _ _ _ _ _ _)
      | (with_reducible exact ih1 _ _ _ _ _ _ _ _)
      | (with_reducible exact ih2 _ _ _ _ _ _ _ _ _ _ _ _ _ _)
      | (with_reducible exact ih3 _ _ _ _ _ _ _ _ _ _ _ _ _ _)
      | (with_reducible exact ih4 _ _ _ _ _ _ _ _ _ _ _ _ _ _)
      | (with_reducible exact ih5 _ _ _ _ _ _ _ _ _ _ _ _ _ _)
      | (with_reducible exact ih6 _ _ _ _ _ _ _ _ _)
      | (with_reducible exact bits_Ins.mono _ _)
      | (with_reducible exact bits_Word.mono _ _ _ _ _ _ _)
      | (with_reducible exact sledgelaw4_wakes.mono _)
      | (with_reducible exact sledgeref3_Bits.mono _ _)
      | (with_reducible exact sledgeref3_Ins.mono _ _ _ _ _ _ _)
      | (with_reducible exact sledgeref3_Word.mono _ _ _ _ _ _ _)
      | (with_reducible exact LeO.refl _)
      | (with_reducible exact LeO.none _)
      | (with_reducible refine LeO.ite ?_ ?_)
      | (with_reducible refine LeO.bind ?_ (fun _ => ?_))
      | exact ih0 _ _ _ _ _ _
      | exact ih1 _ _ _ _ _ _ _ _
      | exact ih2 _ _ _ _ _ _ _ _ _ _ _ _ _ _
      | exact ih3 _ _ _ _ _ _ _ _ _ _ _ _ _ _
      | exact ih4 _ _ _ _ _ _ _ _ _ _ _ _ _ _
      | exact ih5 _ _ _ _ _ _ _ _ _ _ _ _ _ _
      | exact ih6 _ _ _ _ _ _ _ _ _
      | exact bits_Ins.mono _ _
      | exact bits_Word.mono _ _ _ _ _ _ _
      | exact sledgelaw4_wakes.mono _
      | exact sledgeref3_Bits.mono _ _
      | exact sledgeref3_Ins.mono _ _ _ _ _ _ _
      | exact sledgeref3_Word.mono _ _ _ _ _ _ _
      | exact LeO.none _
      | refine LeO.ite ?_ ?_
      | refine LeO.bind ?_ (fun _ => ?_)
    · intro y0 y1 y2 y3 y4 y5 y6 y7
      unfold sledgelaw4_BitsEach.l1
      repeat' first
      | (with_reducible exact ih0 _ _ _ _ _ _)
      | (with_reducible exact ih1 _ _ _ _ _ _ _ _)
      | (with_reducible exact ih2 _ _ _ _ _ _ _ _ _ _ _ _ _ _)
      | (with_reducible exact ih3 _ _ _ _ _ _ _ _ _ _ _ _ _ _)
      | (with_reducible exact ih4 _ _ _ _ _ _ _ _ _ _ _ _ _ _)
      | (with_reducible exact ih5 _ _ _ _ _ _ _ _ _ _ _ _ _ _)
      | (with_reducible exact ih6 _ _ _ _ _ _ _ _ _)
      | (with_reducible exact bits_Ins.mono _ _)
      | (with_reducible exact bits_Word.mono _ _ _ _ _ _ _)
      | (with_reducible exact sledgelaw4_wakes.mono _)
      | (with_reducible exact sledgeref3_Bits.mono _ _)
      | (with_reducible exact sledgeref3_Ins.mono _ _ _ _ _ _ _)
      | (with_reducible exact sledgeref3_Word.mono _ _ _ _ _ _ _)
      | (with_reducible exact LeO.refl _)
      | (with_reducible exact LeO.none _)
      | (with_reducible refine LeO.ite ?_ ?_)
      | (with_reducible refine LeO.bind ?_ (fun _ => ?_))
      | exact ih0 _ _ _ _ _ _
      | exact ih1 _ _ _ _ _ _ _ _
      | exact ih2 _ _ _ _ _ _ _ _ _ _ _ _ _ _
      | exact ih3 _ _ _ _ _ _ _ _ _ _ _ _ _ _
      | exact ih4 _ _ _ _ _ _ _ _ _ _ _ _ _ _
      | exact ih5 _ _ _ _ _ _ _ _ _ _ _ _ _ _
      | exact ih6 _ _ _ _ _ _ _ _ _
      | exact bits_Ins.mono _ _
      | exact bits_Word.mono _ _ _ _ _ _ _
      | exact sledgelaw4_wakes.mono _
      | exact sledgeref3_Bits.mono _ _
      | exact sledgeref3_Ins.mono _ _ _ _ _ _ _
      | exact sledgeref3_Word.mono _ _ _ _ _ _ _
      | exact LeO.none _
      | refine LeO.ite ?_ ?_
      | refine LeO.bind ?_ (fun _ => ?_)
    · intro y0 y1 y2 y3 y4 y5 y6 y7 y8 y9 y10 y11 y12 y13
      unfold sledgelaw4_BitsEach.j2
      repeat' first
      | (with_reducible exact ih0 _ _ _ _ _ _)
      | (with_reducible exact ih1 _ _ _ _ _ _ _ _)
      | (with_reducible exact ih2 _ _ _ _ _ _ _ _ _ _ _ _ _ _)
      | (with_reducible exact ih3 _ _ _ _ _ _ _ _ _ _ _ _ _ _)
      | (with_reducible exact ih4 _ _ _ _ _ _ _ _ _ _ _ _ _ _)
      | (with_reducible exact ih5 _ _ _ _ _ _ _ _ _ _ _ _ _ _)
      | (with_reducible exact ih6 _ _ _ _ _ _ _ _ _)
      | (with_reducible exact bits_Ins.mono _ _)
      | (with_reducible exact bits_Word.mono _ _ _ _ _ _ _)
      | (with_reducible exact sledgelaw4_wakes.mono _)
      | (with_reducible exact sledgeref3_Bits.mono _ _)
      | (with_reducible exact sledgeref3_Ins.mono _ _ _ _ _ _ _)
      | (with_reducible exact sledgeref3_Word.mono _ _ _ _ _ _ _)
      | (with_reducible exact LeO.refl _)
      | (with_reducible exact LeO.none _)
      | (with_reducible refine LeO.ite ?_ ?_)
      | (with_reducible refine LeO.bind ?_ (fun _ => ?_))
      | exact ih0 _ _ _ _ _ _
      | exact ih1 _ _ _ _ _ _ _ _
      | exact ih2 _ _ _ _ _ _ _ _ _ _ _ _ _ _
      | exact ih3 _ _ _ _ _ _ _ _ _ _ _ _ _ _
      | exact ih4 _ _ _ _ _ _ _ _ _ _ _ _ _ _
      | exact ih5 _ _ _ _ _ _ _ _ _ _ _ _ _ _
      | exact ih6 _ _ _ _ _ _ _ _ _
      | exact bits_Ins.mono _ _
      | exact bits_Word.mono _ _ _ _ _ _ _
      | exact sledgelaw4_wakes.mono _
      | exact sledgeref3_Bits.mono _ _
      | exact sledgeref3_Ins.mono _ _ _ _ _ _ _
      | exact sledgeref3_Word.mono _ _ _ _ _ _ _
      | exact LeO.none _
      | refine LeO.ite ?_ ?_
      | refine LeO.bind ?_ (fun _ => ?_)
    · intro y0 y1 y2 y3 y4 y5 y6 y7 y8 y9 y10 y11 y12 y13
      unfold sledgelaw4_BitsEach.j3
      repeat' first
      | (with_reducible exact ih0 _ _ _ _ _ _)
      | (with_reducible exact ih1 _ _ _ _ _ _ _ _)
      | (with_reducible exact ih2 _ _ _ _ _ _ _ _ _ _ _ _ _ _)
      | (with_reducible exact ih3 _ _ _ _ _ _ _ _ _ _ _ _ _ _)
      | (with_reducible exact ih4 _ _ _ _ _ _ _ _ _ _ _ _ _ _)
      | (with_reducible exact ih5 _ _ _ _ _ _ _ _ _ _ _ _ _ _)
      | (with_reducible exact ih6 _ _ _ _ _ _ _ _ _)
      | (with_reducible exact bits_Ins.mono _ _)
      | (with_reducible exact bits_Word.mono _ _ _ _ _ _ _)
      | (with_reducible exact sledgelaw4_wakes.mono _)
      | (with_reducible exact sledgeref3_Bits.mono _ _)
      | (with_reducible exact sledgeref3_Ins.mono _ _ _ _ _ _ _)
      | (with_reducible exact sledgeref3_Word.mono _ _ _ _ _ _ _)
      | (with_reducible exact LeO.refl _)
      | (with_reducible exact LeO.none _)
      | (with_reducible refine LeO.ite ?_ ?_)
      | (with_reducible refine LeO.bind ?_ (fun _ => ?_))
      | exact ih0 _ _ _ _ _ _
      | exact ih1 _ _ _ _ _ _ _ _
      | exact ih2 _ _ _ _ _ _ _ _ _ _ _ _ _ _
      | exact ih3 _ _ _ _ _ _ _ _ _ _ _ _ _ _
      | exact ih4 _ _ _ _ _ _ _ _ _ _ _ _ _ _
      | exact ih5 _ _ _ _ _ _ _ _ _ _ _ _ _ _
      | exact ih6 _ _ _ _ _ _ _ _ _
      | exact bits_Ins.mono _ _
      | exact bits_Word.mono _ _ _ _ _ _ _
      | exact sledgelaw4_wakes.mono _
      | exact sledgeref3_Bits.mono _ _
      | exact sledgeref3_Ins.mono _ _ _ _ _ _ _
      | exact sledgeref3_Word.mono _ _ _ _ _ _ _
      | exact LeO.none _
      | refine LeO.ite ?_ ?_
      | refine LeO.bind ?_ (fun _ => ?_)
    · intro y0 y1 y2 y3 y4 y5 y6 y7 y8 y9 y10 y11 y12 y13
      unfold sledgelaw4_BitsEach.j4
      repeat' first
      | (with_reducible exact ih0 _ _ _ _ _ _)
      | (with_reducible exact ih1 _ _ _ _ _ _ _ _)
      | (with_reducible exact ih2 _ _ _ _ _ _ _ _ _ _ _ _ _ _)
      | (with_reducible exact ih3 _ _ _ _ _ _ _ _ _ _ _ _ _ _)
      | (with_reducible exact ih4 _ _ _ _ _ _ _ _ _ _ _ _ _ _)
      | (with_reducible exact ih5 _ _ _ _ _ _ _ _ _ _ _ _ _ _)
      | (with_reducible exact ih6 _ _ _ _ _ _ _ _ _)
      | (with_reducible exact bits_Ins.mono _ _)
      | (with_reducible exact bits_Word.mono _ _ _ _ _ _ _)
      | (with_reducible exact sledgelaw4_wakes.mono _)
      | (with_reducible exact sledgeref3_Bits.mono _ _)
      | (with_reducible exact sledgeref3_Ins.mono _ _ _ _ _ _ _)
      | (with_reducible exact sledgeref3_Word.mono _ _ _ _ _ _ _)
      | (with_reducible exact LeO.refl _)
      | (with_reducible exact LeO.none _)
      | (with_reducible refine LeO.ite ?_ ?_)
      | (with_reducible refine LeO.bind ?_ (fun _ => ?_))
      | exact ih0 _ _ _ _ _ _
      | exact ih1 _ _ _ _ _ _ _ _
      | exact ih2 _ _ _ _ _ _ _ _ _ _ _ _ _ _
      | exact ih3 _ _ _ _ _ _ _ _ _ _ _ _ _ _
      | exact ih4 _ _ _ _ _ _ _ _ _ _ _ _ _ _
      | exact ih5 _ _ _ _ _ _ _ _ _ _ _ _ _ _
      | exact ih6 _ _ _ _ _ _ _ _ _
      | exact bits_Ins.mono _ _
      | exact bits_Word.mono _ _ _ _ _ _ _
      | exact sledgelaw4_wakes.mono _
      | exact sledgeref3_Bits.mono _ _
      | exact sledgeref3_Ins.mono _ _ _ _ _ _ _
      | exact sledgeref3_Word.mono _ _ _ _ _ _ _
      | exact LeO.none _
      | refine LeO.ite ?_ ?_
      | refine LeO.bind ?_ (fun _ => ?_)
    · intro y0 y1 y2 y3 y4 y5 y6 y7 y8 y9 y10 y11 y12 y13
      unfold sledgelaw4_BitsEach.j5
      repeat' first
      | (with_reducible exact ih0 _ _ _ _ _ _)
      | (with_reducible exact ih1 _ _ _ _ _ _ _ _)
      | (with_reducible exact ih2 _ _ _ _ _ _ _ _ _ _ _ _ _ _)
      | (with_reducible exact ih3 _ _ _ _ _ _ _ _ _ _ _ _ _ _)
      | (with_reducible exact ih4 _ _ _ _ _ _ _ _ _ _ _ _ _ _)
      | (with_reducible exact ih5 _ _ _ _ _ _ _ _ _ _ _ _ _ _)
      | (with_reducible exact ih6 _ _ _ _ _ _ _ _ _)
      | (with_reducible exact bits_Ins.mono _ _)
      | (with_reducible exact bits_Word.mono _ _ _ _ _ _ _)
      | (with_reducible exact sledgelaw4_wakes.mono _)
      | (with_reducible exact sledgeref3_Bits.mono _ _)
      | (with_reducible exact sledgeref3_Ins.mono _ _ _ _ _ _ _)
      | (with_reducible exact sledgeref3_Word.mono _ _ _ _ _ _ _)
      | (with_reducible exact LeO.refl _)
      | (with_reducible exact LeO.none _)
      | (with_reducible refine LeO.ite ?_ ?_)
      | (with_reducible refine LeO.bind ?_ (fun _ => ?_))
      | exact ih0 _ _ _ _ _ _
      | exact ih1 _ _ _ _ _ _ _ _
      | exact ih2 _ _ _ _ _ _ _ _ _ _ _ _ _ _
      | exact ih3 _ _ _ _ _ _ _ _ _ _ _ _ _ _
      | exact ih4 _ _ _ _ _ _ _ _ _ _ _ _ _ _
      | exact ih5 _ _ _ _ _ _ _ _ _ _ _ _ _ _
      | exact ih6 _ _ _ _ _ _ _ _ _
      | exact bits_Ins.mono _ _
      | exact bits_Word.mono _ _ _ _ _ _ _
      | exact sledgelaw4_wakes.mono _
      | exact sledgeref3_Bits.mono _ _
      | exact sledgeref3_Ins.mono _ _ _ _ _ _ _
      | exact sledgeref3_Word.mono _ _ _ _ _ _ _
      | exact LeO.none _
      | refine LeO.ite ?_ ?_
      | refine LeO.bind ?_ (fun _ => ?_)
    · intro y0 y1 y2 y3 y4 y5 y6 y7 y8
      unfold sledgelaw4_BitsEach.j6
      repeat' first
      | (with_reducible exact ih0 _ _ _ _ _ _)
      | (with_reducible exact ih1 _ _ _ _ _ _ _ _)
      | (with_reducible exact ih2 _ _ _ _ _ _ _ _ _ _ _ _ _ _)
      | (with_reducible exact ih3 _ _ _ _ _ _ _ _ _ _ _ _ _ _)
      | (with_reducible exact ih4 _ _ _ _ _ _ _ _ _ _ _ _ _ _)
      | (with_reducible exact ih5 _ _ _ _ _ _ _ _ _ _ _ _ _ _)
      | (with_reducible exact ih6 _ _ _ _ _ _ _ _ _)
      | (with_reducible exact bits_Ins.mono _ _)
      | (with_reducible exact bits_Word.mono _ _ _ _ _ _ _)
      | (with_reducible exact sledgelaw4_wakes.mono _)
      | (with_reducible exact sledgeref3_Bits.mono _ _)
      | (with_reducible exact sledgeref3_Ins.mono _ _ _ _ _ _ _)
      | (with_reducible exact sledgeref3_Word.mono _ _ _ _ _ _ _)
      | (with_reducible exact LeO.refl _)
      | (with_reducible exact LeO.none _)
      | (with_reducible refine LeO.ite ?_ ?_)
      | (with_reducible refine LeO.bind ?_ (fun _ => ?_))
      | exact ih0 _ _ _ _ _ _
      | exact ih1 _ _ _ _ _ _ _ _
      | exact ih2 _ _ _ _ _ _ _ _ _ _ _ _ _ _
      | exact ih3 _ _ _ _ _ _ _ _ _ _ _ _ _ _
      | exact ih4 _ _ _ _ _ _ _ _ _ _ _ _ _ _
      | exact ih5 _ _ _ _ _ _ _ _ _ _ _ _ _ _
      | exact ih6 _ _ _ _ _ _ _ _ _
      | exact bits_Ins.mono _ _
      | exact bits_Word.mono _ _ _ _ _ _ _
      | exact sledgelaw4_wakes.mono _
      | exact sledgeref3_Bits.mono _ _
      | exact sledgeref3_Ins.mono _ _ _ _ _ _ _
      | exact sledgeref3_Word.mono _ _ _ _ _ _ _
      | exact LeO.none _
      | refine LeO.ite ?_ ?_
      | refine LeO.bind ?_ (fun _ => ?_)
theorem sledgelaw4_BitsEach.mono : ∀ a0 a1 a2 a3 a4 k, LeO (sledgelaw4_BitsEach.f k a0 a1 a2 a3 a4) (sledgelaw4_BitsEach.f (k + 1) a0 a1 a2 a3 a4) := by
  intro a0 a1 a2 a3 a4 k
  obtain ⟨ih0, ih1, ih2, ih3, ih4, ih5, ih6⟩ := sledgelaw4_BitsEach.mono_l k
  unfold sledgelaw4_BitsEach.f
  repeat' first
      | (with_reducible exact ih0 _ _ _ _ _ _)
      | (with_reducible exact ih1 _ _ _ _ _ _ _ _)
      | (with_reducible exact ih2 _ _ _ _ _ _ _ _ _ _ _ _ _ _)
      | (with_reducible exact ih3 _ _ _ _ _ _ _ _ _ _ _ _ _ _)
      | (with_reducible exact ih4 _ _ _ _ _ _ _ _ _ _ _ _ _ _)
      | (with_reducible exact ih5 _ _ _ _ _ _ _ _ _ _ _ _ _ _)
      | (with_reducible exact ih6 _ _ _ _ _ _ _ _ _)
      | (with_reducible exact bits_Ins.mono _ _)
      | (with_reducible exact bits_Word.mono _ _ _ _ _ _ _)
      | (with_reducible exact sledgelaw4_wakes.mono _)
      | (with_reducible exact sledgeref3_Bits.mono _ _)
      | (with_reducible exact sledgeref3_Ins.mono _ _ _ _ _ _ _)
      | (with_reducible exact sledgeref3_Word.mono _ _ _ _ _ _ _)
      | (with_reducible exact LeO.refl _)
      | (with_reducible exact LeO.none _)
      | (with_reducible refine LeO.ite ?_ ?_)
      | (with_reducible refine LeO.bind ?_ (fun _ => ?_))
      | exact ih0 _ _ _ _ _ _
      | exact ih1 _ _ _ _ _ _ _ _
      | exact ih2 _ _ _ _ _ _ _ _ _ _ _ _ _ _
      | exact ih3 _ _ _ _ _ _ _ _ _ _ _ _ _ _
      | exact ih4 _ _ _ _ _ _ _ _ _ _ _ _ _ _
      | exact ih5 _ _ _ _ _ _ _ _ _ _ _ _ _ _
      | exact ih6 _ _ _ _ _ _ _ _ _
      | exact bits_Ins.mono _ _
      | exact bits_Word.mono _ _ _ _ _ _ _
      | exact sledgelaw4_wakes.mono _
      | exact sledgeref3_Bits.mono _ _
      | exact sledgeref3_Ins.mono _ _ _ _ _ _ _
      | exact sledgeref3_Word.mono _ _ _ _ _ _ _
      | exact LeO.none _
      | refine LeO.ite ?_ ?_
      | refine LeO.bind ?_ (fun _ => ?_)
set_option maxHeartbeats 8000000 in
set_option maxRecDepth 100000 in
theorem sledgelaw4_BitsEach.calls (k : Nat) (A0_0 : Option Addr) (c0_0 : Nat) (l0_0 : List (S35)) (A0_1 : Option Addr) (c0_1 : Nat) (l0_1 : List ByteArray) (A0_2 : Option Addr) (c0_2 : Nat) (l0_2 : List Int) (A0_3 : Option Addr) (c0_3 : Nat) (l0_3 : List Int) (A0_4 : Option Addr) (c0_4 : Nat) (l0_4 : List (S52)) (r : Bool) (w : World) (hr0_0 : Kd.C k35 w A0_0 l0_0.length l0_0) (hc0_0 : l0_0.length ≤ c0_0) (hr0_1 : Kd.C Kd.string w A0_1 l0_1.length l0_1) (hc0_1 : l0_1.length ≤ c0_1) (hr0_2 : Kd.C (Kd.int .u32) w A0_2 l0_2.length l0_2) (hc0_2 : l0_2.length ≤ c0_2) (hr0_3 : Kd.C (Kd.int .i64) w A0_3 l0_3.length l0_3) (hc0_3 : l0_3.length ≤ c0_3) (hr0_4 : Kd.C k52 w A0_4 l0_4.length l0_4) (hc0_4 : l0_4.length ≤ c0_4) (h : sledgelaw4_BitsEach.f k l0_0 l0_1 l0_2 l0_3 l0_4 = some r) :
    Calls Try.prog 4 #[.agg #[.slice A0_0 l0_0.length c0_0, .slice A0_1 l0_1.length c0_1, .slice A0_2 l0_2.length c0_2, .slice A0_3 l0_3.length c0_3, .slice A0_4 l0_4.length c0_4]] w fun e w' => e = .returned (.bool r) ∧ Below w.heap.size w w' := by
  have hu32 := Try.underlying32
  have hu35 := Try.underlying35
  have HR0_0 := Aside0.mk hr0_0
  have HC0_0 := Aside0.mk hc0_0
  clear hr0_0 hc0_0
  have HR0_1 := Aside0.mk hr0_1
  have HC0_1 := Aside0.mk hc0_1
  clear hr0_1 hc0_1
  have HR0_2 := Aside0.mk hr0_2
  have HC0_2 := Aside0.mk hc0_2
  clear hr0_2 hc0_2
  have HR0_3 := Aside0.mk hr0_3
  have HC0_3 := Aside0.mk hc0_3
  clear hr0_3 hc0_3
  have HR0_4 := Aside0.mk hr0_4
  have HC0_4 := Aside0.mk hc0_4
  clear hr0_4 hc0_4
  have HB := Aside0.mk (Below.refl w.heap.size w)
  have H : (sledgelaw4_BitsEach.l0 k 0 l0_0 l0_1 l0_2 l0_3 l0_4) = some r := h
  clear h
  have H' := Aside0.mk H
  clear H
  go_enter Try.func4, Try.ntmps4
  go_wp2_with (first | ((with_reducible refine gate_dst (N := 1) rfl ?_); refine box_event ?hg (N := 1) ?hd (cs := #[.slice A0_0 l0_0.length c0_0, .slice A0_1 l0_1.length c0_1, .slice A0_2 l0_2.length c0_2, .slice A0_3 l0_3.length c0_3, .slice A0_4 l0_4.length c0_4]) (t := 32) ?hr ?_; (case hd => rfl); (case hg => rfl); (case hr => first | (go_simp; done) | (go_simp; rfl)); intro gb234 hg w2 hbox hb; have n0_ := Aside0.mk (below_step (by repeat (first | (with_reducible first | exact HB.out | apply below_alloc | apply pw_below_drewN | apply below_drew1) | exact HB.out)) hb); have n1_ := Aside0.mk (hbox); have n2_ := Aside0.mk ((by rw [hg]; exact (below_size (by repeat (first | (with_reducible first | exact HB.out | apply below_alloc | apply pw_below_drewN | apply below_drew1) | exact HB.out))) : w.heap.size ≤ gb234)); have n3_ := Aside0.mk ((by rw [hg]; exact (below_size (by repeat (first | (with_reducible first | exact HB.out | apply below_alloc | apply pw_below_drewN | apply below_drew1) | exact HB.out))) : w.heap.size ≤ gb234)); clear HB; have HB := n0_; have BK234 := n1_; have GW234 := n2_; have GE234 := n3_; clear n0_ n1_ n2_ n3_; clear hb hbox hg))
  go_loopg [3] k (fun kq v3 w' => ∃ (x3_1 : Int), v3 = .int .i64 x3_1 ∧ Aside0 (sledgelaw4_BitsEach.l0 kq x3_1 l0_0 l0_1 l0_2 l0_3 l0_4 = some r) ∧ Aside0 (kq ≤ k) ∧ Aside0 (w'.heap[gb234]? = some (.cells #[(.slice A0_0 l0_0.length c0_0), (.slice A0_1 l0_1.length c0_1), (.slice A0_2 l0_2.length c0_2), (.slice A0_3 l0_3.length c0_3), (.slice A0_4 l0_4.length c0_4)] 32 (0, 0))) ∧ Aside0 (Below w.heap.size w w'))
  case atStart => exact ⟨(0), (by first | rfl | (simp; done) | (simp [*]; done) | (congr 1; rw [Bool.eq_iff_iff]; simp; done)), H', ⟨Nat.le_refl _⟩, ⟨by (with_reducible repeat (first | refine blk_drewN ?_ _ | refine blk_drew ?_ | refine blk_alloc ?_ _)); exact BK234.out⟩, ⟨by repeat (first | (with_reducible first | exact HB.out | apply below_alloc | apply pw_below_drewN | apply below_drew1 | refine below_set ?_ GE234.out) | exact HB.out)⟩⟩
  case round =>
    clear H'
    try clear p2
    obtain ⟨x3_1, rfl, HA, HK1, BK234, HB⟩ := hrel
    cases gk with
    | zero => exact absurd HA.out (by simp [sledgelaw4_BitsEach.l0])
    | succ k1 =>
      have H := HA.out
      clear HA
      simp only [sledgelaw4_BitsEach.l0] at H
      by_cases c3 : x3_1 ≤ 33
      · rw [if_pos c3] at H
        have c3b0 : decide (x3_1 ≤ 33) = true := decide_eq_true c3
        clear c3
        replace H := Option.bind_eq_some_iff.mp H
        obtain ⟨t236, A40, H⟩ := H
        replace H : (sledgelaw4_BitsEach.l1 k1 x3_1 t236 0 l0_0 l0_1 l0_2 l0_3 l0_4) = some r := H
        have A4 := Aside0.mk A40
        clear A40
        have H' := Aside0.mk H
        clear H
        go_wp2_with (first | ((with_reducible refine gate_callee (f := 15) rfl ?_); refine goesL_ (some 18) rfl rfl Try.func15 (by kernel_rfl) rfl #[.int .i64 x3_1] rfl (by (try simp only [List.map_toArray, List.map_cons, List.map_nil]); first | done | rfl | (simp only [List.length_drop, List.length_take]; rfl)) ?_; (with_reducible refine (sledgeref3_Form.calls x3_1 t236 _ A4.out).mono ?_); rintro e w5 ⟨rfl, hb⟩; refine ⟨_, rfl, ?_⟩; have n0_ := Aside0.mk (blk_below (g := gb234) (o := .cells #[.slice A0_0 l0_0.length c0_0, .slice A0_1 l0_1.length c0_1, .slice A0_2 l0_2.length c0_2, .slice A0_3 l0_3.length c0_3, .slice A0_4 l0_4.length c0_4] 32 (0, 0)) (by (with_reducible repeat (first | refine blk_drewN ?_ _ | refine blk_drew ?_ | refine blk_alloc ?_ _)); exact BK234.out) hb); have n1_ := Aside0.mk (below_step (by repeat (first | (with_reducible first | exact HB.out | apply below_alloc | apply pw_below_drewN | apply below_drew1 | refine below_set ?_ GE234.out) | exact HB.out)) hb); clear BK234; clear HB; have BK234 := n0_; have HB := n1_; clear n0_ n1_; (try clear hb); (try clear hb2); (try clear hk); (try clear hi)))
        go_loopg [5] k1 (fun kq v5 w' => ∃ (x5_2 : Int), v5 = .int .i64 x5_2 ∧ Aside0 (sledgelaw4_BitsEach.l1 kq x3_1 t236 x5_2 l0_0 l0_1 l0_2 l0_3 l0_4 = some r) ∧ Aside0 (kq ≤ k1) ∧ Aside0 (w'.heap[gb234]? = some (.cells #[(.slice A0_0 l0_0.length c0_0), (.slice A0_1 l0_1.length c0_1), (.slice A0_2 l0_2.length c0_2), (.slice A0_3 l0_3.length c0_3), (.slice A0_4 l0_4.length c0_4)] 32 (0, 0))) ∧ Aside0 (Below w.heap.size w w'))
        case atStart => exact ⟨(0), (by first | rfl | (simp; done) | (simp [*]; done) | (congr 1; rw [Bool.eq_iff_iff]; simp; done)), H', ⟨Nat.le_refl _⟩, ⟨by (with_reducible repeat (first | refine blk_drewN ?_ _ | refine blk_drew ?_ | refine blk_alloc ?_ _)); exact BK234.out⟩, ⟨by repeat (first | (with_reducible first | exact HB.out | apply below_alloc | apply pw_below_drewN | apply below_drew1 | refine below_set ?_ GE234.out) | exact HB.out)⟩⟩
        case round =>
          clear H'
          try clear c1
          try clear p2
          try clear c3
          try clear c3b0
          try clear c4
          try clear p2
          obtain ⟨x5_2, rfl, HA, HK2, BK234, HB⟩ := hrel
          cases gk with
          | zero => exact absurd HA.out (by simp [sledgelaw4_BitsEach.l1])
          | succ k2 =>
            have H := HA.out
            clear HA
            simp only [sledgelaw4_BitsEach.l1] at H
            by_cases c6 : x5_2 < 24
            · rw [if_pos c6] at H
              have c6b0 : decide (x5_2 < 24) = true := decide_eq_true c6
              clear c6
              replace H := Option.bind_eq_some_iff.mp H
              obtain ⟨t238, A70, H⟩ := H
              replace H : (if t238 = true then (sledgelaw4_BitsEach.j2 k2 x3_1 t236 x5_2 l0_0 l0_1 l0_2 l0_3 l0_4 x3_1 (Int.tmod (wrap64 (x5_2 * 7)) 16) 0 0 0 (⟨#[]⟩ : ByteArray)) else (sledgelaw4_BitsEach.j2 k2 x3_1 t236 x5_2 l0_0 l0_1 l0_2 l0_3 l0_4 x3_1 0 0 0 0 (⟨#[]⟩ : ByteArray))) = some r := H
              have A7 := Aside0.mk A70
              clear A70
              have HC8 := Aside0.mk H
              clear H
              go_upto_if 26 with (first | ((with_reducible refine gate_dst (N := 6) rfl ?_); refine box_event ?hg (N := 6) ?hd (cs := #[.int .i64 0, .int .i64 0, .int .i64 0, .int .i64 0, .int .i64 0, .string (⟨#[]⟩ : ByteArray)]) (t := 35) ?hr ?_; (case hd => rfl); (case hg => rfl); (case hr => first | (go_simp; done) | (go_simp; rfl)); intro gb237 hg w9 hbox hb; have n0_ := Aside0.mk (blk_below (g := gb234) (o := .cells #[.slice A0_0 l0_0.length c0_0, .slice A0_1 l0_1.length c0_1, .slice A0_2 l0_2.length c0_2, .slice A0_3 l0_3.length c0_3, .slice A0_4 l0_4.length c0_4] 32 (0, 0)) (by (with_reducible repeat (first | refine blk_drewN ?_ _ | refine blk_drew ?_ | refine blk_alloc ?_ _)); exact BK234.out) hb); have n1_ := Aside0.mk (below_step (by repeat (first | (with_reducible first | exact HB.out | apply below_alloc | apply pw_below_drewN | apply below_drew1 | refine below_set ?_ GE234.out) | exact HB.out)) hb); have n2_ := Aside0.mk (hbox); have n3_ := Aside0.mk ((by rw [hg]; exact (below_size (by repeat (first | (with_reducible first | exact HB.out | apply below_alloc | apply pw_below_drewN | apply below_drew1 | refine below_set ?_ GE234.out) | exact HB.out))) : w.heap.size ≤ gb237)); have n4_ := Aside0.mk ((by rw [hg]; exact (below_size (by repeat (first | (with_reducible first | exact HB.out | apply below_alloc | apply pw_below_drewN | apply below_drew1 | refine below_set ?_ GE234.out) | exact HB.out))) : w.heap.size ≤ gb237)); have n5_ := Aside0.mk ((by rw [hg]; exact Nat.ne_of_lt (blk_lt (g := gb234) (o := .cells #[.slice A0_0 l0_0.length c0_0, .slice A0_1 l0_1.length c0_1, .slice A0_2 l0_2.length c0_2, .slice A0_3 l0_3.length c0_3, .slice A0_4 l0_4.length c0_4] 32 (0, 0)) (by (with_reducible repeat (first | refine blk_drewN ?_ _ | refine blk_drew ?_ | refine blk_alloc ?_ _)); exact BK234.out)) : gb234 ≠ gb237)); have n6_ := Aside0.mk ((by rw [hg]; exact Nat.ne_of_gt (blk_lt (g := gb234) (o := .cells #[.slice A0_0 l0_0.length c0_0, .slice A0_1 l0_1.length c0_1, .slice A0_2 l0_2.length c0_2, .slice A0_3 l0_3.length c0_3, .slice A0_4 l0_4.length c0_4] 32 (0, 0)) (by (with_reducible repeat (first | refine blk_drewN ?_ _ | refine blk_drew ?_ | refine blk_alloc ?_ _)); exact BK234.out)) : gb237 ≠ gb234)); clear BK234; clear HB; have BK234 := n0_; have HB := n1_; have BK237 := n2_; have GW237 := n3_; have GE237 := n4_; have NB234_237 := n5_; have NB237_234 := n6_; clear n0_ n1_ n2_ n3_ n4_ n5_ n6_; clear hb hbox hg; have hnb10 := NB237_234.out; have hnc10 := NB234_237.out; have hcz11_0 : w9.cell? ⟨gb237, 0, none⟩ = some (.int .i64 0) := (blk_cell BK237.out 0).trans rfl; have hcz11_1 : w9.cell? ⟨gb237, 1, none⟩ = some (.int .i64 0) := (blk_cell BK237.out 1).trans rfl; have hcz11_2 : w9.cell? ⟨gb237, 2, none⟩ = some (.int .i64 0) := (blk_cell BK237.out 2).trans rfl; have hcz11_3 : w9.cell? ⟨gb237, 3, none⟩ = some (.int .i64 0) := (blk_cell BK237.out 3).trans rfl; have hcz11_4 : w9.cell? ⟨gb237, 4, none⟩ = some (.int .i64 0) := (blk_cell BK237.out 4).trans rfl; have hcz11_5 : w9.cell? ⟨gb237, 5, none⟩ = some (.string (⟨#[]⟩ : ByteArray)) := (blk_cell BK237.out 5).trans rfl; have hfz11_0 := blk_frozen BK237.out 0; have hfz11_1 := blk_frozen BK237.out 1; have hfz11_2 := blk_frozen BK237.out 2; have hfz11_3 := blk_frozen BK237.out 3; have hfz11_4 := blk_frozen BK237.out 4; have hfz11_5 := blk_frozen BK237.out 5) | ((with_reducible refine gate_callee (f := 16) rfl ?_); refine goesL_ (some 26) rfl rfl Try.func16 (by kernel_rfl) rfl #[.int .i64 t236] rfl (by (try simp only [List.map_toArray, List.map_cons, List.map_nil]); first | done | rfl | (simp only [List.length_drop, List.length_take]; rfl)) ?_; (with_reducible refine (sledgeref3_HasD.calls t236 t238 _ A7.out).mono ?_); rintro e w' ⟨rfl, ⟨nd, rfl⟩⟩; refine ⟨_, rfl, ?_⟩))
              (try simp only [Act.put, List.setIfInBounds_toArray, List.set_cons_zero, List.set_cons_succ])
              go_cut [] (fun wc => ∃ (kq : Nat) (x238001_7 : Int), Aside0 (sledgelaw4_BitsEach.j2 kq x3_1 t236 x5_2 l0_0 l0_1 l0_2 l0_3 l0_4 x3_1 x238001_7 0 0 0 (⟨#[]⟩ : ByteArray) = some r) ∧ Aside0 (kq ≤ k2) ∧ Aside0 (wc.heap[gb234]? = some (.cells #[(.slice A0_0 l0_0.length c0_0), (.slice A0_1 l0_1.length c0_1), (.slice A0_2 l0_2.length c0_2), (.slice A0_3 l0_3.length c0_3), (.slice A0_4 l0_4.length c0_4)] 32 (0, 0))) ∧ Aside0 (wc.heap[gb237]? = some (.cells #[.int .i64 x3_1, .int .i64 x238001_7, .int .i64 0, .int .i64 0, .int .i64 0, .string (⟨#[]⟩ : ByteArray)] 35 (0, 0))) ∧ Aside0 (Below w.heap.size w wc))
              case first =>
                have H := HC8.out
                clear HC8
                by_cases c12 : t238 = true
                · subst c12
                  have H1 : (sledgelaw4_BitsEach.j2 k2 x3_1 t236 x5_2 l0_0 l0_1 l0_2 l0_3 l0_4 x3_1 (Int.tmod (wrap64 (x5_2 * 7)) 16) 0 0 0 (⟨#[]⟩ : ByteArray)) = some r := by rw [if_pos rfl] at H; exact H
                  clear H
                  have H := H1
                  clear H1
                  have H' := Aside0.mk H
                  clear H
                  have hnb13 := NB237_234.out
                  have hnc13 := NB234_237.out
                  have hcz14_0 : w9.cell? ⟨gb237, 0, none⟩ = some (.int .i64 0) := (blk_cell BK237.out 0).trans rfl
                  have hcz14_1 : w9.cell? ⟨gb237, 1, none⟩ = some (.int .i64 0) := (blk_cell BK237.out 1).trans rfl
                  have hcz14_2 : w9.cell? ⟨gb237, 2, none⟩ = some (.int .i64 0) := (blk_cell BK237.out 2).trans rfl
                  have hcz14_3 : w9.cell? ⟨gb237, 3, none⟩ = some (.int .i64 0) := (blk_cell BK237.out 3).trans rfl
                  have hcz14_4 : w9.cell? ⟨gb237, 4, none⟩ = some (.int .i64 0) := (blk_cell BK237.out 4).trans rfl
                  have hcz14_5 : w9.cell? ⟨gb237, 5, none⟩ = some (.string (⟨#[]⟩ : ByteArray)) := (blk_cell BK237.out 5).trans rfl
                  have hfz14_0 := blk_frozen BK237.out 0
                  have hfz14_1 := blk_frozen BK237.out 1
                  have hfz14_2 := blk_frozen BK237.out 2
                  have hfz14_3 := blk_frozen BK237.out 3
                  have hfz14_4 := blk_frozen BK237.out 4
                  have hfz14_5 := blk_frozen BK237.out 5
                  go_wp2
                  go_meet
                  case rel => exact ⟨_, (Int.tmod (wrap64 (x5_2 * 7)) 16), H', ⟨by have := HK1.out; have := HK2.out; first | omega | exact Nat.le_refl _⟩, ⟨by (with_reducible repeat (first | refine blk_drewN ?_ _ | refine blk_drew ?_ | refine blk_alloc ?_ _)); refine blk_far ?_ NB234_237.out _; (with_reducible repeat (first | refine blk_drewN ?_ _ | refine blk_drew ?_ | refine blk_alloc ?_ _)); refine blk_far ?_ NB234_237.out _; (with_reducible repeat (first | refine blk_drewN ?_ _ | refine blk_drew ?_ | refine blk_alloc ?_ _)); refine blk_far ?_ NB234_237.out _; (with_reducible repeat (first | refine blk_drewN ?_ _ | refine blk_drew ?_ | refine blk_alloc ?_ _)); refine blk_far ?_ NB234_237.out _; (with_reducible repeat (first | refine blk_drewN ?_ _ | refine blk_drew ?_ | refine blk_alloc ?_ _)); refine blk_far ?_ NB234_237.out _; (with_reducible repeat (first | refine blk_drewN ?_ _ | refine blk_drew ?_ | refine blk_alloc ?_ _)); refine blk_far ?_ NB234_237.out _; (with_reducible repeat (first | refine blk_drewN ?_ _ | refine blk_drew ?_ | refine blk_alloc ?_ _)); refine blk_far ?_ NB234_237.out _; (with_reducible repeat (first | refine blk_drewN ?_ _ | refine blk_drew ?_ | refine blk_alloc ?_ _)); exact BK234.out⟩, ⟨by (with_reducible repeat (first | refine blk_drewN ?_ _ | refine blk_drew ?_ | refine blk_alloc ?_ _)); refine blk_put (cs := #[.int .i64 x3_1, .int .i64 0, .int .i64 0, .int .i64 0, .int .i64 0, .string (⟨#[]⟩ : ByteArray)]) ?_ 1 _ rfl; (with_reducible repeat (first | refine blk_drewN ?_ _ | refine blk_drew ?_ | refine blk_alloc ?_ _)); refine blk_put (cs := #[.int .i64 x3_1, .int .i64 0, .int .i64 0, .int .i64 0, .int .i64 0, .string (⟨#[]⟩ : ByteArray)]) ?_ 5 _ rfl; (with_reducible repeat (first | refine blk_drewN ?_ _ | refine blk_drew ?_ | refine blk_alloc ?_ _)); refine blk_put (cs := #[.int .i64 x3_1, .int .i64 0, .int .i64 0, .int .i64 0, .int .i64 0, .string (⟨#[]⟩ : ByteArray)]) ?_ 4 _ rfl; (with_reducible repeat (first | refine blk_drewN ?_ _ | refine blk_drew ?_ | refine blk_alloc ?_ _)); refine blk_put (cs := #[.int .i64 x3_1, .int .i64 0, .int .i64 0, .int .i64 0, .int .i64 0, .string (⟨#[]⟩ : ByteArray)]) ?_ 3 _ rfl; (with_reducible repeat (first | refine blk_drewN ?_ _ | refine blk_drew ?_ | refine blk_alloc ?_ _)); refine blk_put (cs := #[.int .i64 x3_1, .int .i64 0, .int .i64 0, .int .i64 0, .int .i64 0, .string (⟨#[]⟩ : ByteArray)]) ?_ 2 _ rfl; (with_reducible repeat (first | refine blk_drewN ?_ _ | refine blk_drew ?_ | refine blk_alloc ?_ _)); refine blk_put (cs := #[.int .i64 x3_1, .int .i64 0, .int .i64 0, .int .i64 0, .int .i64 0, .string (⟨#[]⟩ : ByteArray)]) ?_ 1 _ rfl; (with_reducible repeat (first | refine blk_drewN ?_ _ | refine blk_drew ?_ | refine blk_alloc ?_ _)); refine blk_put (cs := #[.int .i64 0, .int .i64 0, .int .i64 0, .int .i64 0, .int .i64 0, .string (⟨#[]⟩ : ByteArray)]) ?_ 0 _ rfl; (with_reducible repeat (first | refine blk_drewN ?_ _ | refine blk_drew ?_ | refine blk_alloc ?_ _)); exact BK237.out⟩, ⟨by repeat (first | (with_reducible first | exact HB.out | apply below_alloc | apply pw_below_drewN | apply below_drew1 | refine below_set ?_ GE234.out | refine below_set ?_ GE237.out) | exact HB.out)⟩⟩
                · replace c12 := Bool.eq_false_iff.mpr c12
                  subst c12
                  have H1 : (sledgelaw4_BitsEach.j2 k2 x3_1 t236 x5_2 l0_0 l0_1 l0_2 l0_3 l0_4 x3_1 0 0 0 0 (⟨#[]⟩ : ByteArray)) = some r := by rw [if_neg (show ¬ (false = true) by decide)] at H; exact H
                  clear H
                  have H := H1
                  clear H1
                  have H' := Aside0.mk H
                  clear H
                  go_wp2
                  go_meet
                  case rel => exact ⟨_, (0), H', ⟨by have := HK1.out; have := HK2.out; first | omega | exact Nat.le_refl _⟩, ⟨by (with_reducible repeat (first | refine blk_drewN ?_ _ | refine blk_drew ?_ | refine blk_alloc ?_ _)); refine blk_far ?_ NB234_237.out _; (with_reducible repeat (first | refine blk_drewN ?_ _ | refine blk_drew ?_ | refine blk_alloc ?_ _)); refine blk_far ?_ NB234_237.out _; (with_reducible repeat (first | refine blk_drewN ?_ _ | refine blk_drew ?_ | refine blk_alloc ?_ _)); refine blk_far ?_ NB234_237.out _; (with_reducible repeat (first | refine blk_drewN ?_ _ | refine blk_drew ?_ | refine blk_alloc ?_ _)); refine blk_far ?_ NB234_237.out _; (with_reducible repeat (first | refine blk_drewN ?_ _ | refine blk_drew ?_ | refine blk_alloc ?_ _)); refine blk_far ?_ NB234_237.out _; (with_reducible repeat (first | refine blk_drewN ?_ _ | refine blk_drew ?_ | refine blk_alloc ?_ _)); refine blk_far ?_ NB234_237.out _; (with_reducible repeat (first | refine blk_drewN ?_ _ | refine blk_drew ?_ | refine blk_alloc ?_ _)); exact BK234.out⟩, ⟨by (with_reducible repeat (first | refine blk_drewN ?_ _ | refine blk_drew ?_ | refine blk_alloc ?_ _)); refine blk_put (cs := #[.int .i64 x3_1, .int .i64 0, .int .i64 0, .int .i64 0, .int .i64 0, .string (⟨#[]⟩ : ByteArray)]) ?_ 5 _ rfl; (with_reducible repeat (first | refine blk_drewN ?_ _ | refine blk_drew ?_ | refine blk_alloc ?_ _)); refine blk_put (cs := #[.int .i64 x3_1, .int .i64 0, .int .i64 0, .int .i64 0, .int .i64 0, .string (⟨#[]⟩ : ByteArray)]) ?_ 4 _ rfl; (with_reducible repeat (first | refine blk_drewN ?_ _ | refine blk_drew ?_ | refine blk_alloc ?_ _)); refine blk_put (cs := #[.int .i64 x3_1, .int .i64 0, .int .i64 0, .int .i64 0, .int .i64 0, .string (⟨#[]⟩ : ByteArray)]) ?_ 3 _ rfl; (with_reducible repeat (first | refine blk_drewN ?_ _ | refine blk_drew ?_ | refine blk_alloc ?_ _)); refine blk_put (cs := #[.int .i64 x3_1, .int .i64 0, .int .i64 0, .int .i64 0, .int .i64 0, .string (⟨#[]⟩ : ByteArray)]) ?_ 2 _ rfl; (with_reducible repeat (first | refine blk_drewN ?_ _ | refine blk_drew ?_ | refine blk_alloc ?_ _)); refine blk_put (cs := #[.int .i64 x3_1, .int .i64 0, .int .i64 0, .int .i64 0, .int .i64 0, .string (⟨#[]⟩ : ByteArray)]) ?_ 1 _ rfl; (with_reducible repeat (first | refine blk_drewN ?_ _ | refine blk_drew ?_ | refine blk_alloc ?_ _)); refine blk_put (cs := #[.int .i64 0, .int .i64 0, .int .i64 0, .int .i64 0, .int .i64 0, .string (⟨#[]⟩ : ByteArray)]) ?_ 0 _ rfl; (with_reducible repeat (first | refine blk_drewN ?_ _ | refine blk_drew ?_ | refine blk_alloc ?_ _)); exact BK237.out⟩, ⟨by repeat (first | (with_reducible first | exact HB.out | apply below_alloc | apply pw_below_drewN | apply below_drew1 | refine below_set ?_ GE234.out | refine below_set ?_ GE237.out) | exact HB.out)⟩⟩
              case rest =>
                clear HC8
                try clear c1
                try clear p2
                try clear c3
                try clear c3b0
                try clear c4
                try clear c6
                try clear c6b0
                try clear p6
                try clear c10
                try clear c12
                try clear c13
                try clear hcz11_0
                try clear hcz11_1
                try clear hcz11_2
                try clear hcz11_3
                try clear hcz11_4
                try clear hcz11_5
                try clear hcz14_0
                try clear hcz14_1
                try clear hcz14_2
                try clear hcz14_3
                try clear hcz14_4
                try clear hcz14_5
                try clear hfz11_0
                try clear hfz11_1
                try clear hfz11_2
                try clear hfz11_3
                try clear hfz11_4
                try clear hfz11_5
                try clear hfz14_0
                try clear hfz14_1
                try clear hfz14_2
                try clear hfz14_3
                try clear hfz14_4
                try clear hfz14_5
                try clear p2
                obtain ⟨kq, x238001_7, HA, HJ7, BK234, BK237, HB⟩ := hcut
                cases kq with
                | zero => exact absurd HA.out (by simp [sledgelaw4_BitsEach.j2])
                | succ kj7 =>
                  have H := HA.out
                  clear HA
                  simp only [sledgelaw4_BitsEach.j2] at H
                  replace H := Option.bind_eq_some_iff.mp H
                  obtain ⟨t239, A150, H⟩ := H
                  replace H : (if t239 = true then (sledgelaw4_BitsEach.j3 kj7 x3_1 t236 x5_2 l0_0 l0_1 l0_2 l0_3 l0_4 x3_1 x238001_7 (Int.tmod (wrap64 ((wrap64 (x5_2 + (l0_4.length : Int))) * 5)) 16) 0 0 (⟨#[]⟩ : ByteArray)) else (sledgelaw4_BitsEach.j3 kj7 x3_1 t236 x5_2 l0_0 l0_1 l0_2 l0_3 l0_4 x3_1 x238001_7 0 0 0 (⟨#[]⟩ : ByteArray))) = some r := H
                  have A15 := Aside0.mk A150
                  clear A150
                  have HC16 := Aside0.mk H
                  clear H
                  go_upto_if 32 with (first | ((with_reducible refine gate_callee (f := 17) rfl ?_); refine goesL_ (some 32) rfl rfl Try.func17 (by kernel_rfl) rfl #[.int .i64 t236] rfl (by (try simp only [List.map_toArray, List.map_cons, List.map_nil]); first | done | rfl | (simp only [List.length_drop, List.length_take]; rfl)) ?_; (with_reducible refine (sledgeref3_HasA.calls t236 t239 _ A15.out).mono ?_); rintro e w' ⟨rfl, ⟨nd, rfl⟩⟩; refine ⟨_, rfl, ?_⟩))
                  (try simp only [Act.put, List.setIfInBounds_toArray, List.set_cons_zero, List.set_cons_succ])
                  go_cut [] (fun wc => ∃ (kq : Nat) (x238002_15 : Int), Aside0 (sledgelaw4_BitsEach.j3 kq x3_1 t236 x5_2 l0_0 l0_1 l0_2 l0_3 l0_4 x3_1 x238001_7 x238002_15 0 0 (⟨#[]⟩ : ByteArray) = some r) ∧ Aside0 (kq ≤ kj7) ∧ Aside0 (wc.heap[gb234]? = some (.cells #[(.slice A0_0 l0_0.length c0_0), (.slice A0_1 l0_1.length c0_1), (.slice A0_2 l0_2.length c0_2), (.slice A0_3 l0_3.length c0_3), (.slice A0_4 l0_4.length c0_4)] 32 (0, 0))) ∧ Aside0 (wc.heap[gb237]? = some (.cells #[.int .i64 x3_1, .int .i64 x238001_7, .int .i64 x238002_15, .int .i64 0, .int .i64 0, .string (⟨#[]⟩ : ByteArray)] 35 (0, 0))) ∧ Aside0 (Below w.heap.size w wc))
                  case first =>
                    have H := HC16.out
                    clear HC16
                    by_cases c17 : t239 = true
                    · subst c17
                      have H1 : (sledgelaw4_BitsEach.j3 kj7 x3_1 t236 x5_2 l0_0 l0_1 l0_2 l0_3 l0_4 x3_1 x238001_7 (Int.tmod (wrap64 ((wrap64 (x5_2 + (l0_4.length : Int))) * 5)) 16) 0 0 (⟨#[]⟩ : ByteArray)) = some r := by rw [if_pos rfl] at H; exact H
                      clear H
                      have H := H1
                      clear H1
                      have H' := Aside0.mk H
                      clear H
                      have hnb18 := NB234_237.out
                      have hnc18 := NB237_234.out
                      have hcz19_0 : wc.cell? ⟨gb234, 0, none⟩ = some (.slice A0_0 l0_0.length c0_0) := (blk_cell BK234.out 0).trans rfl
                      have hcz19_1 : wc.cell? ⟨gb234, 1, none⟩ = some (.slice A0_1 l0_1.length c0_1) := (blk_cell BK234.out 1).trans rfl
                      have hcz19_2 : wc.cell? ⟨gb234, 2, none⟩ = some (.slice A0_2 l0_2.length c0_2) := (blk_cell BK234.out 2).trans rfl
                      have hcz19_3 : wc.cell? ⟨gb234, 3, none⟩ = some (.slice A0_3 l0_3.length c0_3) := (blk_cell BK234.out 3).trans rfl
                      have hcz19_4 : wc.cell? ⟨gb234, 4, none⟩ = some (.slice A0_4 l0_4.length c0_4) := (blk_cell BK234.out 4).trans rfl
                      have hfz19_0 := blk_frozen BK234.out 0
                      have hfz19_1 := blk_frozen BK234.out 1
                      have hfz19_2 := blk_frozen BK234.out 2
                      have hfz19_3 := blk_frozen BK234.out 3
                      have hfz19_4 := blk_frozen BK234.out 4
                      have hcz20_0 : wc.cell? ⟨gb237, 0, none⟩ = some (.int .i64 x3_1) := (blk_cell BK237.out 0).trans rfl
                      have hcz20_1 : wc.cell? ⟨gb237, 1, none⟩ = some (.int .i64 x238001_7) := (blk_cell BK237.out 1).trans rfl
                      have hcz20_2 : wc.cell? ⟨gb237, 2, none⟩ = some (.int .i64 0) := (blk_cell BK237.out 2).trans rfl
                      have hcz20_3 : wc.cell? ⟨gb237, 3, none⟩ = some (.int .i64 0) := (blk_cell BK237.out 3).trans rfl
                      have hcz20_4 : wc.cell? ⟨gb237, 4, none⟩ = some (.int .i64 0) := (blk_cell BK237.out 4).trans rfl
                      have hcz20_5 : wc.cell? ⟨gb237, 5, none⟩ = some (.string (⟨#[]⟩ : ByteArray)) := (blk_cell BK237.out 5).trans rfl
                      have hfz20_0 := blk_frozen BK237.out 0
                      have hfz20_1 := blk_frozen BK237.out 1
                      have hfz20_2 := blk_frozen BK237.out 2
                      have hfz20_3 := blk_frozen BK237.out 3
                      have hfz20_4 := blk_frozen BK237.out 4
                      have hfz20_5 := blk_frozen BK237.out 5
                      go_wp2
                      go_meet
                      case rel => exact ⟨_, (Int.tmod (wrap64 ((wrap64 (x5_2 + (l0_4.length : Int))) * 5)) 16), H', ⟨by have := HK1.out; have := HK2.out; have := HJ7.out; first | omega | exact Nat.le_refl _⟩, ⟨by (with_reducible repeat (first | refine blk_drewN ?_ _ | refine blk_drew ?_ | refine blk_alloc ?_ _)); refine blk_far ?_ NB234_237.out _; (with_reducible repeat (first | refine blk_drewN ?_ _ | refine blk_drew ?_ | refine blk_alloc ?_ _)); exact BK234.out⟩, ⟨by (with_reducible repeat (first | refine blk_drewN ?_ _ | refine blk_drew ?_ | refine blk_alloc ?_ _)); refine blk_put (cs := #[.int .i64 x3_1, .int .i64 x238001_7, .int .i64 0, .int .i64 0, .int .i64 0, .string (⟨#[]⟩ : ByteArray)]) ?_ 2 _ rfl; (with_reducible repeat (first | refine blk_drewN ?_ _ | refine blk_drew ?_ | refine blk_alloc ?_ _)); exact BK237.out⟩, ⟨by repeat (first | (with_reducible first | exact HB.out | apply below_alloc | apply pw_below_drewN | apply below_drew1 | refine below_set ?_ GE234.out | refine below_set ?_ GE237.out) | exact HB.out)⟩⟩
                    · replace c17 := Bool.eq_false_iff.mpr c17
                      subst c17
                      have H1 : (sledgelaw4_BitsEach.j3 kj7 x3_1 t236 x5_2 l0_0 l0_1 l0_2 l0_3 l0_4 x3_1 x238001_7 0 0 0 (⟨#[]⟩ : ByteArray)) = some r := by rw [if_neg (show ¬ (false = true) by decide)] at H; exact H
                      clear H
                      have H := H1
                      clear H1
                      have H' := Aside0.mk H
                      clear H
                      go_wp2
                      go_meet
                      case rel => exact ⟨_, (0), H', ⟨by have := HK1.out; have := HK2.out; have := HJ7.out; first | omega | exact Nat.le_refl _⟩, ⟨by (with_reducible repeat (first | refine blk_drewN ?_ _ | refine blk_drew ?_ | refine blk_alloc ?_ _)); exact BK234.out⟩, ⟨by (with_reducible repeat (first | refine blk_drewN ?_ _ | refine blk_drew ?_ | refine blk_alloc ?_ _)); exact BK237.out⟩, ⟨by repeat (first | (with_reducible first | exact HB.out | apply below_alloc | apply pw_below_drewN | apply below_drew1 | refine below_set ?_ GE234.out | refine below_set ?_ GE237.out) | exact HB.out)⟩⟩
                  case rest =>
                    clear HC16
                    try clear c1
                    try clear p2
                    try clear c3
                    try clear c3b0
                    try clear c4
                    try clear c6
                    try clear c6b0
                    try clear p6
                    try clear c10
                    try clear c12
                    try clear c13
                    try clear c15
                    try clear c16
                    try clear c17
                    try clear c18
                    try clear hcz11_0
                    try clear hcz11_1
                    try clear hcz11_2
                    try clear hcz11_3
                    try clear hcz11_4
                    try clear hcz11_5
                    try clear hcz14_0
                    try clear hcz14_1
                    try clear hcz14_2
                    try clear hcz14_3
                    try clear hcz14_4
                    try clear hcz14_5
                    try clear hcz19_0
                    try clear hcz19_1
                    try clear hcz19_2
                    try clear hcz19_3
                    try clear hcz19_4
                    try clear hcz20_0
                    try clear hcz20_1
                    try clear hcz20_2
                    try clear hcz20_3
                    try clear hcz20_4
                    try clear hcz20_5
                    try clear hfz11_0
                    try clear hfz11_1
                    try clear hfz11_2
                    try clear hfz11_3
                    try clear hfz11_4
                    try clear hfz11_5
                    try clear hfz14_0
                    try clear hfz14_1
                    try clear hfz14_2
                    try clear hfz14_3
                    try clear hfz14_4
                    try clear hfz14_5
                    try clear hfz19_0
                    try clear hfz19_1
                    try clear hfz19_2
                    try clear hfz19_3
                    try clear hfz19_4
                    try clear hfz20_0
                    try clear hfz20_1
                    try clear hfz20_2
                    try clear hfz20_3
                    try clear hfz20_4
                    try clear hfz20_5
                    try clear p2
                    try clear p6
                    obtain ⟨kq, x238002_15, HA, HJ15, BK234, BK237, HB⟩ := hcut
                    cases kq with
                    | zero => exact absurd HA.out (by simp [sledgelaw4_BitsEach.j3])
                    | succ kj15 =>
                      have H := HA.out
                      clear HA
                      simp only [sledgelaw4_BitsEach.j3] at H
                      replace H := Option.bind_eq_some_iff.mp H
                      obtain ⟨t240, A210, H⟩ := H
                      replace H : (if t240 = true then (sledgelaw4_BitsEach.j4 kj15 x3_1 t236 x5_2 l0_0 l0_1 l0_2 l0_3 l0_4 x3_1 x238001_7 x238002_15 (Int.tmod (wrap64 (x5_2 * 3)) 16) 0 (⟨#[]⟩ : ByteArray)) else (sledgelaw4_BitsEach.j4 kj15 x3_1 t236 x5_2 l0_0 l0_1 l0_2 l0_3 l0_4 x3_1 x238001_7 x238002_15 0 0 (⟨#[]⟩ : ByteArray))) = some r := H
                      have A21 := Aside0.mk A210
                      clear A210
                      have HC22 := Aside0.mk H
                      clear H
                      go_upto_if 42 with (first | ((with_reducible refine gate_callee (f := 18) rfl ?_); refine goesL_ (some 42) rfl rfl Try.func18 (by kernel_rfl) rfl #[.int .i64 t236] rfl (by (try simp only [List.map_toArray, List.map_cons, List.map_nil]); first | done | rfl | (simp only [List.length_drop, List.length_take]; rfl)) ?_; (with_reducible refine (sledgeref3_HasB.calls t236 t240 _ A21.out).mono ?_); rintro e w' ⟨rfl, ⟨nd, rfl⟩⟩; refine ⟨_, rfl, ?_⟩))
                      (try simp only [Act.put, List.setIfInBounds_toArray, List.set_cons_zero, List.set_cons_succ])
                      go_cut [] (fun wc => ∃ (kq : Nat) (x238003_21 : Int), Aside0 (sledgelaw4_BitsEach.j4 kq x3_1 t236 x5_2 l0_0 l0_1 l0_2 l0_3 l0_4 x3_1 x238001_7 x238002_15 x238003_21 0 (⟨#[]⟩ : ByteArray) = some r) ∧ Aside0 (kq ≤ kj15) ∧ Aside0 (wc.heap[gb234]? = some (.cells #[(.slice A0_0 l0_0.length c0_0), (.slice A0_1 l0_1.length c0_1), (.slice A0_2 l0_2.length c0_2), (.slice A0_3 l0_3.length c0_3), (.slice A0_4 l0_4.length c0_4)] 32 (0, 0))) ∧ Aside0 (wc.heap[gb237]? = some (.cells #[.int .i64 x3_1, .int .i64 x238001_7, .int .i64 x238002_15, .int .i64 x238003_21, .int .i64 0, .string (⟨#[]⟩ : ByteArray)] 35 (0, 0))) ∧ Aside0 (Below w.heap.size w wc))
                      case first =>
                        have H := HC22.out
                        clear HC22
                        by_cases c23 : t240 = true
                        · subst c23
                          have H1 : (sledgelaw4_BitsEach.j4 kj15 x3_1 t236 x5_2 l0_0 l0_1 l0_2 l0_3 l0_4 x3_1 x238001_7 x238002_15 (Int.tmod (wrap64 (x5_2 * 3)) 16) 0 (⟨#[]⟩ : ByteArray)) = some r := by rw [if_pos rfl] at H; exact H
                          clear H
                          have H := H1
                          clear H1
                          have H' := Aside0.mk H
                          clear H
                          have hnb24 := NB237_234.out
                          have hnc24 := NB234_237.out
                          have hcz25_0 : wc.cell? ⟨gb237, 0, none⟩ = some (.int .i64 x3_1) := (blk_cell BK237.out 0).trans rfl
                          have hcz25_1 : wc.cell? ⟨gb237, 1, none⟩ = some (.int .i64 x238001_7) := (blk_cell BK237.out 1).trans rfl
                          have hcz25_2 : wc.cell? ⟨gb237, 2, none⟩ = some (.int .i64 x238002_15) := (blk_cell BK237.out 2).trans rfl
                          have hcz25_3 : wc.cell? ⟨gb237, 3, none⟩ = some (.int .i64 0) := (blk_cell BK237.out 3).trans rfl
                          have hcz25_4 : wc.cell? ⟨gb237, 4, none⟩ = some (.int .i64 0) := (blk_cell BK237.out 4).trans rfl
                          have hcz25_5 : wc.cell? ⟨gb237, 5, none⟩ = some (.string (⟨#[]⟩ : ByteArray)) := (blk_cell BK237.out 5).trans rfl
                          have hfz25_0 := blk_frozen BK237.out 0
                          have hfz25_1 := blk_frozen BK237.out 1
                          have hfz25_2 := blk_frozen BK237.out 2
                          have hfz25_3 := blk_frozen BK237.out 3
                          have hfz25_4 := blk_frozen BK237.out 4
                          have hfz25_5 := blk_frozen BK237.out 5
                          go_wp2
                          go_meet
                          case rel => exact ⟨_, (Int.tmod (wrap64 (x5_2 * 3)) 16), H', ⟨by have := HK1.out; have := HK2.out; have := HJ7.out; have := HJ15.out; first | omega | exact Nat.le_refl _⟩, ⟨by (with_reducible repeat (first | refine blk_drewN ?_ _ | refine blk_drew ?_ | refine blk_alloc ?_ _)); refine blk_far ?_ NB234_237.out _; (with_reducible repeat (first | refine blk_drewN ?_ _ | refine blk_drew ?_ | refine blk_alloc ?_ _)); exact BK234.out⟩, ⟨by (with_reducible repeat (first | refine blk_drewN ?_ _ | refine blk_drew ?_ | refine blk_alloc ?_ _)); refine blk_put (cs := #[.int .i64 x3_1, .int .i64 x238001_7, .int .i64 x238002_15, .int .i64 0, .int .i64 0, .string (⟨#[]⟩ : ByteArray)]) ?_ 3 _ rfl; (with_reducible repeat (first | refine blk_drewN ?_ _ | refine blk_drew ?_ | refine blk_alloc ?_ _)); exact BK237.out⟩, ⟨by repeat (first | (with_reducible first | exact HB.out | apply below_alloc | apply pw_below_drewN | apply below_drew1 | refine below_set ?_ GE234.out | refine below_set ?_ GE237.out) | exact HB.out)⟩⟩
                        · replace c23 := Bool.eq_false_iff.mpr c23
                          subst c23
                          have H1 : (sledgelaw4_BitsEach.j4 kj15 x3_1 t236 x5_2 l0_0 l0_1 l0_2 l0_3 l0_4 x3_1 x238001_7 x238002_15 0 0 (⟨#[]⟩ : ByteArray)) = some r := by rw [if_neg (show ¬ (false = true) by decide)] at H; exact H
                          clear H
                          have H := H1
                          clear H1
                          have H' := Aside0.mk H
                          clear H
                          go_wp2
                          go_meet
                          case rel => exact ⟨_, (0), H', ⟨by have := HK1.out; have := HK2.out; have := HJ7.out; have := HJ15.out; first | omega | exact Nat.le_refl _⟩, ⟨by (with_reducible repeat (first | refine blk_drewN ?_ _ | refine blk_drew ?_ | refine blk_alloc ?_ _)); exact BK234.out⟩, ⟨by (with_reducible repeat (first | refine blk_drewN ?_ _ | refine blk_drew ?_ | refine blk_alloc ?_ _)); exact BK237.out⟩, ⟨by repeat (first | (with_reducible first | exact HB.out | apply below_alloc | apply pw_below_drewN | apply below_drew1 | refine below_set ?_ GE234.out | refine below_set ?_ GE237.out) | exact HB.out)⟩⟩
                      case rest =>
                        clear HC22
                        try clear c1
                        try clear c2
                        try clear p2
                        try clear c3
                        try clear c3b0
                        try clear c4
                        try clear c6
                        try clear c6b0
                        try clear p6
                        try clear c10
                        try clear c12
                        try clear c13
                        try clear c15
                        try clear c16
                        try clear c17
                        try clear c18
                        try clear c23
                        try clear c24
                        try clear hcz11_0
                        try clear hcz11_1
                        try clear hcz11_2
                        try clear hcz11_3
                        try clear hcz11_4
                        try clear hcz11_5
                        try clear hcz14_0
                        try clear hcz14_1
                        try clear hcz14_2
                        try clear hcz14_3
                        try clear hcz14_4
                        try clear hcz14_5
                        try clear hcz19_0
                        try clear hcz19_1
                        try clear hcz19_2
                        try clear hcz19_3
                        try clear hcz19_4
                        try clear hcz20_0
                        try clear hcz20_1
                        try clear hcz20_2
                        try clear hcz20_3
                        try clear hcz20_4
                        try clear hcz20_5
                        try clear hcz25_0
                        try clear hcz25_1
                        try clear hcz25_2
                        try clear hcz25_3
                        try clear hcz25_4
                        try clear hcz25_5
                        try clear hfz11_0
                        try clear hfz11_1
                        try clear hfz11_2
                        try clear hfz11_3
                        try clear hfz11_4
                        try clear hfz11_5
                        try clear hfz14_0
                        try clear hfz14_1
                        try clear hfz14_2
                        try clear hfz14_3
                        try clear hfz14_4
                        try clear hfz14_5
                        try clear hfz19_0
                        try clear hfz19_1
                        try clear hfz19_2
                        try clear hfz19_3
                        try clear hfz19_4
                        try clear hfz20_0
                        try clear hfz20_1
                        try clear hfz20_2
                        try clear hfz20_3
                        try clear hfz20_4
                        try clear hfz20_5
                        try clear hfz25_0
                        try clear hfz25_1
                        try clear hfz25_2
                        try clear hfz25_3
                        try clear hfz25_4
                        try clear hfz25_5
                        try clear p2
                        try clear p6
                        obtain ⟨kq, x238003_21, HA, HJ21, BK234, BK237, HB⟩ := hcut
                        cases kq with
                        | zero => exact absurd HA.out (by simp [sledgelaw4_BitsEach.j4])
                        | succ kj21 =>
                          have H := HA.out
                          clear HA
                          simp only [sledgelaw4_BitsEach.j4] at H
                          replace H := Option.bind_eq_some_iff.mp H
                          obtain ⟨t241, A260, H⟩ := H
                          replace H : (if t241 > 0 then (if 0 ≤ (wrap64 (t241 - 1)) then ((some (([0, 1, wrap64 ((shl .i64 1 (wrap64 (t241 - 1))) - 1), (-1), wrap64 (-(shl .i64 1 (wrap64 (t241 - 1)))), wrap64 (Int.tdiv (shl .i64 1 (wrap64 (t241 - 1))) 2)] : List Int) : List Int)).bind fun y242 => (if 0 ≤ (Int.tmod x5_2 6) then (if (Int.tmod x5_2 6) < (y242.length : Int) then ((sledgeref3_Target.f t236).bind fun t246 => (if t246 = true then ((some (([0, 1, 1023, 2, 77, 512] : List Int) : List Int)).bind fun y247 => (if (Int.tmod x5_2 6) < (y247.length : Int) then (sledgelaw4_BitsEach.j5 kj21 x3_1 t236 x5_2 l0_0 l0_1 l0_2 l0_3 l0_4 x3_1 x238001_7 x238002_15 x238003_21 (rd y247 (Int.tmod x5_2 6)) (⟨#[]⟩ : ByteArray)) else (none))) else (sledgelaw4_BitsEach.j5 kj21 x3_1 t236 x5_2 l0_0 l0_1 l0_2 l0_3 l0_4 x3_1 x238001_7 x238002_15 x238003_21 (rd y242 (Int.tmod x5_2 6)) (⟨#[]⟩ : ByteArray)))) else (none)) else (none))) else (none)) else (sledgelaw4_BitsEach.j5 kj21 x3_1 t236 x5_2 l0_0 l0_1 l0_2 l0_3 l0_4 x3_1 x238001_7 x238002_15 x238003_21 0 (⟨#[]⟩ : ByteArray))) = some r := H
                          have A26 := Aside0.mk A260
                          clear A260
                          have HC27 := Aside0.mk H
                          clear H
                          go_upto_if 50 with (first | ((with_reducible refine gate_callee (f := 19) rfl ?_); refine goesL_ (some 48) rfl rfl Try.func19 (by kernel_rfl) rfl #[.int .i64 t236] rfl (by (try simp only [List.map_toArray, List.map_cons, List.map_nil]); first | done | rfl | (simp only [List.length_drop, List.length_take]; rfl)) ?_; (with_reducible refine (sledgeref3_Bits.calls kj21 t236 t241 _ A26.out).mono ?_); rintro e w' ⟨rfl, ⟨nd, rfl⟩⟩; refine ⟨_, rfl, ?_⟩))
                          (try simp only [Act.put, List.setIfInBounds_toArray, List.set_cons_zero, List.set_cons_succ])
                          go_cut [] (fun wc => ∃ (kq : Nat) (x238004_26 : Int), Aside0 (sledgelaw4_BitsEach.j5 kq x3_1 t236 x5_2 l0_0 l0_1 l0_2 l0_3 l0_4 x3_1 x238001_7 x238002_15 x238003_21 x238004_26 (⟨#[]⟩ : ByteArray) = some r) ∧ Aside0 (kq ≤ kj21) ∧ Aside0 (wc.heap[gb234]? = some (.cells #[(.slice A0_0 l0_0.length c0_0), (.slice A0_1 l0_1.length c0_1), (.slice A0_2 l0_2.length c0_2), (.slice A0_3 l0_3.length c0_3), (.slice A0_4 l0_4.length c0_4)] 32 (0, 0))) ∧ Aside0 (wc.heap[gb237]? = some (.cells #[.int .i64 x3_1, .int .i64 x238001_7, .int .i64 x238002_15, .int .i64 x238003_21, .int .i64 x238004_26, .string (⟨#[]⟩ : ByteArray)] 35 (0, 0))) ∧ Aside0 (Below w.heap.size w wc))
                          case first =>
                            have H := HC27.out
                            clear HC27
                            by_cases c28 : t241 > 0
                            · rw [if_pos c28] at H
                              have c28b0 : decide (0 < t241) = true := decide_eq_true c28
                              clear c28
                              (first | rw [c28b0] | (simp only [i64_w, i32_w]; rw [c28b0]) | skip)
                              obtain ⟨ji29, hji29⟩ : ∃ j_ : Int, (wrap64 (t241 - 1)) = j_ := ⟨_, rfl⟩
                              replace H : (if 0 ≤ (ji29) then ((some (([0, 1, wrap64 ((shl .i64 1 (ji29)) - 1), (-1), wrap64 (-(shl .i64 1 (ji29))), wrap64 (Int.tdiv (shl .i64 1 (ji29)) 2)] : List Int) : List Int)).bind fun y242 => (if 0 ≤ (Int.tmod x5_2 6) then (if (Int.tmod x5_2 6) < (y242.length : Int) then ((sledgeref3_Target.f t236).bind fun t246 => (if t246 = true then ((some (([0, 1, 1023, 2, 77, 512] : List Int) : List Int)).bind fun y247 => (if (Int.tmod x5_2 6) < (y247.length : Int) then (sledgelaw4_BitsEach.j5 kj21 x3_1 t236 x5_2 l0_0 l0_1 l0_2 l0_3 l0_4 x3_1 x238001_7 x238002_15 x238003_21 (rd y247 (Int.tmod x5_2 6)) (⟨#[]⟩ : ByteArray)) else (none))) else (sledgelaw4_BitsEach.j5 kj21 x3_1 t236 x5_2 l0_0 l0_1 l0_2 l0_3 l0_4 x3_1 x238001_7 x238002_15 x238003_21 (rd y242 (Int.tmod x5_2 6)) (⟨#[]⟩ : ByteArray)))) else (none)) else (none))) else (none)) = some r := by first | (rw [hji29] at H; exact H) | (simp only [hji29] at H ⊢; exact H)
                              have hji29w : (IntKind.i64.wrap (t241 - 1)) = ji29 := (i64_w _).trans hji29
                              by_cases c30 : 0 ≤ (ji29)
                              · rw [if_pos c30] at H
                                have c30b0 := eq_true c30
                                have c30b1 : decide (0 ≤ (ji29)) = true := decide_eq_true c30
                                clear c30
                                obtain ⟨ji31, hji31⟩ : ∃ j_ : Int, (shl .i64 1 (ji29)) = j_ := ⟨_, rfl⟩
                                replace H : ((some (([0, 1, wrap64 ((ji31) - 1), (-1), wrap64 (-(ji31)), wrap64 (Int.tdiv (ji31) 2)] : List Int) : List Int)).bind fun y242 => (if 0 ≤ (Int.tmod x5_2 6) then (if (Int.tmod x5_2 6) < (y242.length : Int) then ((sledgeref3_Target.f t236).bind fun t246 => (if t246 = true then ((some (([0, 1, 1023, 2, 77, 512] : List Int) : List Int)).bind fun y247 => (if (Int.tmod x5_2 6) < (y247.length : Int) then (sledgelaw4_BitsEach.j5 kj21 x3_1 t236 x5_2 l0_0 l0_1 l0_2 l0_3 l0_4 x3_1 x238001_7 x238002_15 x238003_21 (rd y247 (Int.tmod x5_2 6)) (⟨#[]⟩ : ByteArray)) else (none))) else (sledgelaw4_BitsEach.j5 kj21 x3_1 t236 x5_2 l0_0 l0_1 l0_2 l0_3 l0_4 x3_1 x238001_7 x238002_15 x238003_21 (rd y242 (Int.tmod x5_2 6)) (⟨#[]⟩ : ByteArray)))) else (none)) else (none))) = some r := by first | (rw [hji31] at H; exact H) | (simp only [hji31] at H ⊢; exact H)
                                have hji31_ : (IntKind.i64.wrap (1 * 2 ^ min (ji29).toNat 64)) = ji31 := hji31
                                have hji31z : (ji29) ≤ 64 → (IntKind.i64.wrap (1 * 2 ^ (ji29).toNat)) = ji31 := shl_small hji31
                                have hji31u : (IntKind.i64.wrap (2 ^ min (ji29).toNat 64)) = ji31 := by have h_ := hji31_; rw [Int.one_mul] at h_; exact h_
                                have hji31v : (ji29) ≤ 64 → (IntKind.i64.wrap (2 ^ (ji29).toNat)) = ji31 := fun hle_ => by have h_ := hji31z hle_; rw [Int.one_mul] at h_; exact h_
                                have hji31y : (wrap64 (1 * 2 ^ min (ji29).toNat 64)) = ji31 := (i64_w _).symm.trans hji31_
                                have hji31x : (ji29) ≤ 64 → (wrap64 (1 * 2 ^ (ji29).toNat)) = ji31 := fun h_ => (i64_w _).symm.trans (hji31z h_)
                                obtain ⟨y242, hy242⟩ : ∃ y_ : List Int, y_ = (([0, 1, wrap64 ((ji31) - 1), (-1), wrap64 (-(ji31)), wrap64 (Int.tdiv (ji31) 2)] : List Int)) := ⟨_, rfl⟩
                                replace H : (if 0 ≤ (Int.tmod x5_2 6) then (if (Int.tmod x5_2 6) < (y242.length : Int) then ((sledgeref3_Target.f t236).bind fun t246 => (if t246 = true then ((some (([0, 1, 1023, 2, 77, 512] : List Int) : List Int)).bind fun y247 => (if (Int.tmod x5_2 6) < (y247.length : Int) then (sledgelaw4_BitsEach.j5 kj21 x3_1 t236 x5_2 l0_0 l0_1 l0_2 l0_3 l0_4 x3_1 x238001_7 x238002_15 x238003_21 (rd y247 (Int.tmod x5_2 6)) (⟨#[]⟩ : ByteArray)) else (none))) else (sledgelaw4_BitsEach.j5 kj21 x3_1 t236 x5_2 l0_0 l0_1 l0_2 l0_3 l0_4 x3_1 x238001_7 x238002_15 x238003_21 (rd y242 (Int.tmod x5_2 6)) (⟨#[]⟩ : ByteArray)))) else (none)) else (none)) = some r := by first | (rw [hy242]; with_reducible exact H) | (have H2_ := (Option.bind_some _ _).symm.trans H; rw [hy242]; with_reducible exact H2_) | (have H2_ := (Option.bind_some _ _).symm.trans H; with_reducible exact H2_) | with_reducible exact H | (rw [hy242]; exact H) | exact H
                                have Ny242 := Aside0.mk hy242
                                clear hy242
                                obtain ⟨ji32, hji32⟩ : ∃ j_ : Int, (Int.tmod x5_2 6) = j_ := ⟨_, rfl⟩
                                replace H : (if 0 ≤ (ji32) then (if (ji32) < (y242.length : Int) then ((sledgeref3_Target.f t236).bind fun t246 => (if t246 = true then ((some (([0, 1, 1023, 2, 77, 512] : List Int) : List Int)).bind fun y247 => (if (ji32) < (y247.length : Int) then (sledgelaw4_BitsEach.j5 kj21 x3_1 t236 x5_2 l0_0 l0_1 l0_2 l0_3 l0_4 x3_1 x238001_7 x238002_15 x238003_21 (rd y247 (ji32)) (⟨#[]⟩ : ByteArray)) else (none))) else (sledgelaw4_BitsEach.j5 kj21 x3_1 t236 x5_2 l0_0 l0_1 l0_2 l0_3 l0_4 x3_1 x238001_7 x238002_15 x238003_21 (rd y242 (ji32)) (⟨#[]⟩ : ByteArray)))) else (none)) else (none)) = some r := by first | (rw [hji32] at H; exact H) | (simp only [hji32] at H ⊢; exact H)
                                by_cases c33 : 0 ≤ (ji32)
                                · rw [if_pos c33] at H
                                  have c33b0 : decide (0 ≤ (ji32)) = true := decide_eq_true c33
                                  clear c33
                                  by_cases c34 : (ji32) < (y242.length : Int)
                                  · rw [if_pos c34] at H
                                    have c34b0 : decide ((ji32) < (y242.length : Int)) = true := decide_eq_true c34
                                    clear c34
                                    replace H := Option.bind_eq_some_iff.mp H
                                    obtain ⟨t246, A350, H⟩ := H
                                    replace H : (if t246 = true then ((some (([0, 1, 1023, 2, 77, 512] : List Int) : List Int)).bind fun y247 => (if (ji32) < (y247.length : Int) then (sledgelaw4_BitsEach.j5 kj21 x3_1 t236 x5_2 l0_0 l0_1 l0_2 l0_3 l0_4 x3_1 x238001_7 x238002_15 x238003_21 (rd y247 (ji32)) (⟨#[]⟩ : ByteArray)) else (none))) else (sledgelaw4_BitsEach.j5 kj21 x3_1 t236 x5_2 l0_0 l0_1 l0_2 l0_3 l0_4 x3_1 x238001_7 x238002_15 x238003_21 (rd y242 (ji32)) (⟨#[]⟩ : ByteArray))) = some r := H
                                    have A35 := Aside0.mk A350
                                    clear A350
                                    by_cases c36 : t246 = true
                                    · subst c36
                                      have H1 : ((some (([0, 1, 1023, 2, 77, 512] : List Int) : List Int)).bind fun y247 => (if (ji32) < (y247.length : Int) then (sledgelaw4_BitsEach.j5 kj21 x3_1 t236 x5_2 l0_0 l0_1 l0_2 l0_3 l0_4 x3_1 x238001_7 x238002_15 x238003_21 (rd y247 (ji32)) (⟨#[]⟩ : ByteArray)) else (none))) = some r := by rw [if_pos rfl] at H; exact H
                                      clear H
                                      have H := H1
                                      clear H1
                                      obtain ⟨y247, hy247⟩ : ∃ y_ : List Int, y_ = (([0, 1, 1023, 2, 77, 512] : List Int)) := ⟨_, rfl⟩
                                      replace H : (if (ji32) < (y247.length : Int) then (sledgelaw4_BitsEach.j5 kj21 x3_1 t236 x5_2 l0_0 l0_1 l0_2 l0_3 l0_4 x3_1 x238001_7 x238002_15 x238003_21 (rd y247 (ji32)) (⟨#[]⟩ : ByteArray)) else (none)) = some r := by first | (rw [hy247]; with_reducible exact H) | (have H2_ := (Option.bind_some _ _).symm.trans H; rw [hy247]; with_reducible exact H2_) | (have H2_ := (Option.bind_some _ _).symm.trans H; with_reducible exact H2_) | with_reducible exact H | (rw [hy247]; exact H) | exact H
                                      have Ny247 := Aside0.mk hy247
                                      clear hy247
                                      by_cases c37 : (ji32) < (y247.length : Int)
                                      · rw [if_pos c37] at H
                                        have c37b0 : decide ((ji32) < (y247.length : Int)) = true := decide_eq_true c37
                                        clear c37
                                        have H' := Aside0.mk H
                                        clear H
                                        go_wp2_with (first | ((with_reducible refine gate_dst (N := 60) rfl ?_); refine Kd.R_lit (Kd.int .i64) _ 3 ?hg (N := 60) ?hd (xs := ([0, 1, wrap64 ((ji31) - 1), (-1), wrap64 (-(ji31)), wrap64 (Int.tdiv (ji31) 2)] : List Int)) (inner := [.int .i64 0, .int .i64 1, .int .i64 (wrap64 ((ji31) - 1)), .int .i64 (-1), .int .i64 (wrap64 (-(ji31))), .int .i64 (wrap64 (Int.tdiv (ji31) 2))]) (ok := fun _ => True) (okp := fun _ => True) ?hr ?hp (fun _ hk => hk) trivial (Below.refl _ _) (Nat.le_refl _) (by simp) ?_; (case hd => rfl); (case hg => rfl); (case hr => first | (go_simp; done) | (go_simp; rfl)); (case hp => exact (Reps.one (show Kd.M (Kd.int .i64) _ _ _ 0 [.int .i64 0] from rfl) (Reps.one (show Kd.M (Kd.int .i64) _ _ _ 1 [.int .i64 1] from rfl) (Reps.one (show Kd.M (Kd.int .i64) _ _ _ (wrap64 ((ji31) - 1)) [.int .i64 (wrap64 ((ji31) - 1))] from rfl) (Reps.one (show Kd.M (Kd.int .i64) _ _ _ (-1) [.int .i64 (-1)] from rfl) (Reps.one (show Kd.M (Kd.int .i64) _ _ _ (wrap64 (-(ji31))) [.int .i64 (wrap64 (-(ji31)))] from rfl) (Reps.one (show Kd.M (Kd.int .i64) _ _ _ (wrap64 (Int.tdiv (ji31) 2)) [.int .i64 (wrap64 (Int.tdiv (ji31) 2))] from rfl) (Reps.none _ _)))))))); intro v243 w38 ho39 hb hg_ hnew_; clear hg_ hnew_; (first | rw [← Ny242.out] at ho39 | (simp only [Int.reduceToNat] at ho39; rw [← Ny242.out] at ho39)); have n0_ := Aside0.mk (Kd.R_lower ho39 (below_size (by repeat (first | (with_reducible first | exact HB.out | apply below_alloc | apply pw_below_drewN | apply below_drew1 | refine below_set ?_ GE234.out | refine below_set ?_ GE237.out) | exact HB.out)))); have n1_ := Aside0.mk (blk_below (g := gb234) (o := .cells #[.slice A0_0 l0_0.length c0_0, .slice A0_1 l0_1.length c0_1, .slice A0_2 l0_2.length c0_2, .slice A0_3 l0_3.length c0_3, .slice A0_4 l0_4.length c0_4] 32 (0, 0)) (by (with_reducible repeat (first | refine blk_drewN ?_ _ | refine blk_drew ?_ | refine blk_alloc ?_ _)); exact BK234.out) hb); have n2_ := Aside0.mk (blk_below (g := gb237) (o := .cells #[.int .i64 x3_1, .int .i64 x238001_7, .int .i64 x238002_15, .int .i64 x238003_21, .int .i64 0, .string (⟨#[]⟩ : ByteArray)] 35 (0, 0)) (by (with_reducible repeat (first | refine blk_drewN ?_ _ | refine blk_drew ?_ | refine blk_alloc ?_ _)); exact BK237.out) hb); have n3_ := Aside0.mk (below_step (by repeat (first | (with_reducible first | exact HB.out | apply below_alloc | apply pw_below_drewN | apply below_drew1 | refine below_set ?_ GE234.out | refine below_set ?_ GE237.out) | exact HB.out)) hb); clear BK234; clear BK237; clear HB; have HO244 := n0_; have BK234 := n1_; have BK237 := n2_; have HB := n3_; clear n0_ n1_ n2_ n3_; clear hb ho39; obtain ⟨Ao40, co40, eo40⟩ := Kd.R_slice HO244.out; subst eo40; have p245 : 0 ≤ ((ji32) : Int) := of_decide_eq_true (by first | (with_reducible assumption) | assumption); have q245 : (ji32) < (y242.length : Int) := of_decide_eq_true (by first | (with_reducible assumption) | assumption); obtain ⟨ad245, e245, hx245_0⟩ := Kd.at_int (Kd.R_reads' HO244.out).2.2 (ji32) p245 q245; cases e245; replace p245 := eq_true p245; replace q245 := eq_true q245; have hnb41 := NB237_234.out; have hnc41 := NB234_237.out; have hcz42_0 : w38.cell? ⟨gb237, 0, none⟩ = some (.int .i64 x3_1) := (blk_cell BK237.out 0).trans rfl; have hcz42_1 : w38.cell? ⟨gb237, 1, none⟩ = some (.int .i64 x238001_7) := (blk_cell BK237.out 1).trans rfl; have hcz42_2 : w38.cell? ⟨gb237, 2, none⟩ = some (.int .i64 x238002_15) := (blk_cell BK237.out 2).trans rfl; have hcz42_3 : w38.cell? ⟨gb237, 3, none⟩ = some (.int .i64 x238003_21) := (blk_cell BK237.out 3).trans rfl; have hcz42_4 : w38.cell? ⟨gb237, 4, none⟩ = some (.int .i64 0) := (blk_cell BK237.out 4).trans rfl; have hcz42_5 : w38.cell? ⟨gb237, 5, none⟩ = some (.string (⟨#[]⟩ : ByteArray)) := (blk_cell BK237.out 5).trans rfl; have hfz42_0 := blk_frozen BK237.out 0; have hfz42_1 := blk_frozen BK237.out 1; have hfz42_2 := blk_frozen BK237.out 2; have hfz42_3 := blk_frozen BK237.out 3; have hfz42_4 := blk_frozen BK237.out 4; have hfz42_5 := blk_frozen BK237.out 5) | ((with_reducible refine gate_callee (f := 20) rfl ?_); refine goesL_ (some 67) rfl rfl Try.func20 (by kernel_rfl) rfl #[.int .i64 t236] rfl (by (try simp only [List.map_toArray, List.map_cons, List.map_nil]); first | done | rfl | (simp only [List.length_drop, List.length_take]; rfl)) ?_; (with_reducible refine (sledgeref3_Target.calls t236 true _ A35.out).mono ?_); rintro e w' ⟨rfl, ⟨nd, rfl⟩⟩; refine ⟨_, rfl, ?_⟩) | ((with_reducible refine gate_dst (N := 68) rfl ?_); refine Kd.R_lit (Kd.int .i64) _ 3 ?hg (N := 68) ?hd (xs := ([0, 1, 1023, 2, 77, 512] : List Int)) (inner := [.int .i64 0, .int .i64 1, .int .i64 1023, .int .i64 2, .int .i64 77, .int .i64 512]) (ok := fun _ => True) (okp := fun _ => True) ?hr ?hp (fun _ hk => hk) trivial (Below.refl _ _) (Nat.le_refl _) (by simp) ?_; (case hd => rfl); (case hg => rfl); (case hr => first | (go_simp; done) | (go_simp; rfl)); (case hp => exact (Reps.one (show Kd.M (Kd.int .i64) _ _ _ 0 [.int .i64 0] from rfl) (Reps.one (show Kd.M (Kd.int .i64) _ _ _ 1 [.int .i64 1] from rfl) (Reps.one (show Kd.M (Kd.int .i64) _ _ _ 1023 [.int .i64 1023] from rfl) (Reps.one (show Kd.M (Kd.int .i64) _ _ _ 2 [.int .i64 2] from rfl) (Reps.one (show Kd.M (Kd.int .i64) _ _ _ 77 [.int .i64 77] from rfl) (Reps.one (show Kd.M (Kd.int .i64) _ _ _ 512 [.int .i64 512] from rfl) (Reps.none _ _)))))))); intro v248 w43 ho44 hb hg_ hnew_; clear hg_ hnew_; (first | rw [← Ny247.out] at ho44 | (simp only [Int.reduceToNat] at ho44; rw [← Ny247.out] at ho44)); have n0_ := Aside0.mk (Kd.R_elder' (by (with_reducible repeat (first | apply Kd.R_alloc | apply Kd.R_drewN | apply Kd.R_drew)); exact (Kd.R_mono (Kd.R_far (p := ⟨gb237, 4, none⟩) (Kd.R_types HO244.out BK237.out (by decide)) (fun _ hk => hk.2) (.int .i64 (rd y242 (ji32)))) (fun _ h_ => h_.1))) (Kd.R_base ho44) hb); have n1_ := Aside0.mk (Kd.R_lower (Kd.R_new' ho44 (Kd.R_lt (by (with_reducible repeat (first | apply Kd.R_alloc | apply Kd.R_drewN | apply Kd.R_drew)); exact (Kd.R_mono (Kd.R_far (p := ⟨gb237, 4, none⟩) (Kd.R_types HO244.out BK237.out (by decide)) (fun _ hk => hk.2) (.int .i64 (rd y242 (ji32)))) (fun _ h_ => h_.1))))) (below_size (by repeat (first | (with_reducible first | exact HB.out | apply below_alloc | apply pw_below_drewN | apply below_drew1 | refine below_set ?_ GE234.out | refine below_set ?_ GE237.out) | exact HB.out)))); have n2_ := Aside0.mk (blk_below (g := gb234) (o := .cells #[.slice A0_0 l0_0.length c0_0, .slice A0_1 l0_1.length c0_1, .slice A0_2 l0_2.length c0_2, .slice A0_3 l0_3.length c0_3, .slice A0_4 l0_4.length c0_4] 32 (0, 0)) (by (with_reducible repeat (first | refine blk_drewN ?_ _ | refine blk_drew ?_ | refine blk_alloc ?_ _)); refine blk_far ?_ NB234_237.out _; (with_reducible repeat (first | refine blk_drewN ?_ _ | refine blk_drew ?_ | refine blk_alloc ?_ _)); exact BK234.out) hb); have n3_ := Aside0.mk (blk_below (g := gb237) (o := .cells #[.int .i64 x3_1, .int .i64 x238001_7, .int .i64 x238002_15, .int .i64 x238003_21, .int .i64 (rd y242 (ji32)), .string (⟨#[]⟩ : ByteArray)] 35 (0, 0)) (by (with_reducible repeat (first | refine blk_drewN ?_ _ | refine blk_drew ?_ | refine blk_alloc ?_ _)); refine blk_put (cs := #[.int .i64 x3_1, .int .i64 x238001_7, .int .i64 x238002_15, .int .i64 x238003_21, .int .i64 0, .string (⟨#[]⟩ : ByteArray)]) ?_ 4 _ rfl; (with_reducible repeat (first | refine blk_drewN ?_ _ | refine blk_drew ?_ | refine blk_alloc ?_ _)); exact BK237.out) hb); have n4_ := Aside0.mk (below_step (by repeat (first | (with_reducible first | exact HB.out | apply below_alloc | apply pw_below_drewN | apply below_drew1 | refine below_set ?_ GE234.out | refine below_set ?_ GE237.out) | exact HB.out)) hb); clear HO244; clear BK234; clear BK237; clear HB; have HO244 := n0_; have HO249 := n1_; have BK234 := n2_; have BK237 := n3_; have HB := n4_; clear n0_ n1_ n2_ n3_ n4_; clear hb ho44; obtain ⟨Ao45, co45, eo45⟩ := Kd.R_slice HO249.out; subst eo45; have p250 : 0 ≤ ((ji32) : Int) := of_decide_eq_true (by first | (with_reducible assumption) | assumption); have q250 : (ji32) < (y247.length : Int) := of_decide_eq_true (by first | (with_reducible assumption) | assumption); obtain ⟨ad250, e250, hx250_0⟩ := Kd.at_int (Kd.R_reads' HO249.out).2.2 (ji32) p250 q250; cases e250; replace p250 := eq_true p250; replace q250 := eq_true q250; have hcz46_0 : w43.cell? ⟨gb237, 0, none⟩ = some (.int .i64 x3_1) := (blk_cell BK237.out 0).trans rfl; have hcz46_1 : w43.cell? ⟨gb237, 1, none⟩ = some (.int .i64 x238001_7) := (blk_cell BK237.out 1).trans rfl; have hcz46_2 : w43.cell? ⟨gb237, 2, none⟩ = some (.int .i64 x238002_15) := (blk_cell BK237.out 2).trans rfl; have hcz46_3 : w43.cell? ⟨gb237, 3, none⟩ = some (.int .i64 x238003_21) := (blk_cell BK237.out 3).trans rfl; have hcz46_4 : w43.cell? ⟨gb237, 4, none⟩ = some (.int .i64 (rd y242 (ji32))) := (blk_cell BK237.out 4).trans rfl; have hcz46_5 : w43.cell? ⟨gb237, 5, none⟩ = some (.string (⟨#[]⟩ : ByteArray)) := (blk_cell BK237.out 5).trans rfl; have hfz46_0 := blk_frozen BK237.out 0; have hfz46_1 := blk_frozen BK237.out 1; have hfz46_2 := blk_frozen BK237.out 2; have hfz46_3 := blk_frozen BK237.out 3; have hfz46_4 := blk_frozen BK237.out 4; have hfz46_5 := blk_frozen BK237.out 5))
                                        go_meet
                                        case rel => exact ⟨_, (rd y247 (ji32)), H', ⟨by have := HK1.out; have := HK2.out; have := HJ7.out; have := HJ15.out; have := HJ21.out; first | omega | exact Nat.le_refl _⟩, ⟨by (with_reducible repeat (first | refine blk_drewN ?_ _ | refine blk_drew ?_ | refine blk_alloc ?_ _)); refine blk_far ?_ NB234_237.out _; (with_reducible repeat (first | refine blk_drewN ?_ _ | refine blk_drew ?_ | refine blk_alloc ?_ _)); exact BK234.out⟩, ⟨by (with_reducible repeat (first | refine blk_drewN ?_ _ | refine blk_drew ?_ | refine blk_alloc ?_ _)); refine blk_put (cs := #[.int .i64 x3_1, .int .i64 x238001_7, .int .i64 x238002_15, .int .i64 x238003_21, .int .i64 (rd y242 (ji32)), .string (⟨#[]⟩ : ByteArray)]) ?_ 4 _ rfl; (with_reducible repeat (first | refine blk_drewN ?_ _ | refine blk_drew ?_ | refine blk_alloc ?_ _)); exact BK237.out⟩, ⟨by repeat (first | (with_reducible first | exact HB.out | apply below_alloc | apply pw_below_drewN | apply below_drew1 | refine below_set ?_ GE234.out | refine below_set ?_ GE237.out) | exact HB.out)⟩⟩
                                      · rw [if_neg c37] at H
                                        exact absurd H (by simp)
                                    · replace c36 := Bool.eq_false_iff.mpr c36
                                      subst c36
                                      have H1 : (sledgelaw4_BitsEach.j5 kj21 x3_1 t236 x5_2 l0_0 l0_1 l0_2 l0_3 l0_4 x3_1 x238001_7 x238002_15 x238003_21 (rd y242 (ji32)) (⟨#[]⟩ : ByteArray)) = some r := by rw [if_neg (show ¬ (false = true) by decide)] at H; exact H
                                      clear H
                                      have H := H1
                                      clear H1
                                      have H' := Aside0.mk H
                                      clear H
                                      go_wp2_with (first | ((with_reducible refine gate_dst (N := 60) rfl ?_); refine Kd.R_lit (Kd.int .i64) _ 3 ?hg (N := 60) ?hd (xs := ([0, 1, wrap64 ((ji31) - 1), (-1), wrap64 (-(ji31)), wrap64 (Int.tdiv (ji31) 2)] : List Int)) (inner := [.int .i64 0, .int .i64 1, .int .i64 (wrap64 ((ji31) - 1)), .int .i64 (-1), .int .i64 (wrap64 (-(ji31))), .int .i64 (wrap64 (Int.tdiv (ji31) 2))]) (ok := fun _ => True) (okp := fun _ => True) ?hr ?hp (fun _ hk => hk) trivial (Below.refl _ _) (Nat.le_refl _) (by simp) ?_; (case hd => rfl); (case hg => rfl); (case hr => first | (go_simp; done) | (go_simp; rfl)); (case hp => exact (Reps.one (show Kd.M (Kd.int .i64) _ _ _ 0 [.int .i64 0] from rfl) (Reps.one (show Kd.M (Kd.int .i64) _ _ _ 1 [.int .i64 1] from rfl) (Reps.one (show Kd.M (Kd.int .i64) _ _ _ (wrap64 ((ji31) - 1)) [.int .i64 (wrap64 ((ji31) - 1))] from rfl) (Reps.one (show Kd.M (Kd.int .i64) _ _ _ (-1) [.int .i64 (-1)] from rfl) (Reps.one (show Kd.M (Kd.int .i64) _ _ _ (wrap64 (-(ji31))) [.int .i64 (wrap64 (-(ji31)))] from rfl) (Reps.one (show Kd.M (Kd.int .i64) _ _ _ (wrap64 (Int.tdiv (ji31) 2)) [.int .i64 (wrap64 (Int.tdiv (ji31) 2))] from rfl) (Reps.none _ _)))))))); intro v243 w47 ho48 hb hg_ hnew_; clear hg_ hnew_; (first | rw [← Ny242.out] at ho48 | (simp only [Int.reduceToNat] at ho48; rw [← Ny242.out] at ho48)); have n0_ := Aside0.mk (Kd.R_lower ho48 (below_size (by repeat (first | (with_reducible first | exact HB.out | apply below_alloc | apply pw_below_drewN | apply below_drew1 | refine below_set ?_ GE234.out | refine below_set ?_ GE237.out) | exact HB.out)))); have n1_ := Aside0.mk (blk_below (g := gb234) (o := .cells #[.slice A0_0 l0_0.length c0_0, .slice A0_1 l0_1.length c0_1, .slice A0_2 l0_2.length c0_2, .slice A0_3 l0_3.length c0_3, .slice A0_4 l0_4.length c0_4] 32 (0, 0)) (by (with_reducible repeat (first | refine blk_drewN ?_ _ | refine blk_drew ?_ | refine blk_alloc ?_ _)); exact BK234.out) hb); have n2_ := Aside0.mk (blk_below (g := gb237) (o := .cells #[.int .i64 x3_1, .int .i64 x238001_7, .int .i64 x238002_15, .int .i64 x238003_21, .int .i64 0, .string (⟨#[]⟩ : ByteArray)] 35 (0, 0)) (by (with_reducible repeat (first | refine blk_drewN ?_ _ | refine blk_drew ?_ | refine blk_alloc ?_ _)); exact BK237.out) hb); have n3_ := Aside0.mk (below_step (by repeat (first | (with_reducible first | exact HB.out | apply below_alloc | apply pw_below_drewN | apply below_drew1 | refine below_set ?_ GE234.out | refine below_set ?_ GE237.out) | exact HB.out)) hb); clear BK234; clear BK237; clear HB; have HO244 := n0_; have BK234 := n1_; have BK237 := n2_; have HB := n3_; clear n0_ n1_ n2_ n3_; clear hb ho48; obtain ⟨Ao49, co49, eo49⟩ := Kd.R_slice HO244.out; subst eo49; have p245 : 0 ≤ ((ji32) : Int) := of_decide_eq_true (by first | (with_reducible assumption) | assumption); have q245 : (ji32) < (y242.length : Int) := of_decide_eq_true (by first | (with_reducible assumption) | assumption); obtain ⟨ad245, e245, hx245_0⟩ := Kd.at_int (Kd.R_reads' HO244.out).2.2 (ji32) p245 q245; cases e245; replace p245 := eq_true p245; replace q245 := eq_true q245; have hnb50 := NB237_234.out; have hnc50 := NB234_237.out; have hcz51_0 : w47.cell? ⟨gb237, 0, none⟩ = some (.int .i64 x3_1) := (blk_cell BK237.out 0).trans rfl; have hcz51_1 : w47.cell? ⟨gb237, 1, none⟩ = some (.int .i64 x238001_7) := (blk_cell BK237.out 1).trans rfl; have hcz51_2 : w47.cell? ⟨gb237, 2, none⟩ = some (.int .i64 x238002_15) := (blk_cell BK237.out 2).trans rfl; have hcz51_3 : w47.cell? ⟨gb237, 3, none⟩ = some (.int .i64 x238003_21) := (blk_cell BK237.out 3).trans rfl; have hcz51_4 : w47.cell? ⟨gb237, 4, none⟩ = some (.int .i64 0) := (blk_cell BK237.out 4).trans rfl; have hcz51_5 : w47.cell? ⟨gb237, 5, none⟩ = some (.string (⟨#[]⟩ : ByteArray)) := (blk_cell BK237.out 5).trans rfl; have hfz51_0 := blk_frozen BK237.out 0; have hfz51_1 := blk_frozen BK237.out 1; have hfz51_2 := blk_frozen BK237.out 2; have hfz51_3 := blk_frozen BK237.out 3; have hfz51_4 := blk_frozen BK237.out 4; have hfz51_5 := blk_frozen BK237.out 5) | ((with_reducible refine gate_callee (f := 20) rfl ?_); refine goesL_ (some 67) rfl rfl Try.func20 (by kernel_rfl) rfl #[.int .i64 t236] rfl (by (try simp only [List.map_toArray, List.map_cons, List.map_nil]); first | done | rfl | (simp only [List.length_drop, List.length_take]; rfl)) ?_; (with_reducible refine (sledgeref3_Target.calls t236 false _ A35.out).mono ?_); rintro e w' ⟨rfl, ⟨nd, rfl⟩⟩; refine ⟨_, rfl, ?_⟩))
                                      go_meet
                                      case rel => exact ⟨_, (rd y242 (ji32)), H', ⟨by have := HK1.out; have := HK2.out; have := HJ7.out; have := HJ15.out; have := HJ21.out; first | omega | exact Nat.le_refl _⟩, ⟨by (with_reducible repeat (first | refine blk_drewN ?_ _ | refine blk_drew ?_ | refine blk_alloc ?_ _)); refine blk_far ?_ NB234_237.out _; (with_reducible repeat (first | refine blk_drewN ?_ _ | refine blk_drew ?_ | refine blk_alloc ?_ _)); exact BK234.out⟩, ⟨by (with_reducible repeat (first | refine blk_drewN ?_ _ | refine blk_drew ?_ | refine blk_alloc ?_ _)); refine blk_put (cs := #[.int .i64 x3_1, .int .i64 x238001_7, .int .i64 x238002_15, .int .i64 x238003_21, .int .i64 0, .string (⟨#[]⟩ : ByteArray)]) ?_ 4 _ rfl; (with_reducible repeat (first | refine blk_drewN ?_ _ | refine blk_drew ?_ | refine blk_alloc ?_ _)); exact BK237.out⟩, ⟨by repeat (first | (with_reducible first | exact HB.out | apply below_alloc | apply pw_below_drewN | apply below_drew1 | refine below_set ?_ GE234.out | refine below_set ?_ GE237.out) | exact HB.out)⟩⟩
                                  · rw [if_neg c34] at H
                                    exact absurd H (by simp)
                                · rw [if_neg c33] at H
                                  exact absurd H (by simp)
                              · rw [if_neg c30] at H
                                exact absurd H (by simp)
                            · rw [if_neg c28] at H
                              have c28b0 : decide (0 < t241) = false := decide_eq_false c28
                              clear c28
                              (first | rw [c28b0] | (simp only [i64_w, i32_w]; rw [c28b0]) | skip)
                              have H' := Aside0.mk H
                              clear H
                              go_wp2
                              go_meet
                              case rel => exact ⟨_, (0), H', ⟨by have := HK1.out; have := HK2.out; have := HJ7.out; have := HJ15.out; have := HJ21.out; first | omega | exact Nat.le_refl _⟩, ⟨by (with_reducible repeat (first | refine blk_drewN ?_ _ | refine blk_drew ?_ | refine blk_alloc ?_ _)); exact BK234.out⟩, ⟨by (with_reducible repeat (first | refine blk_drewN ?_ _ | refine blk_drew ?_ | refine blk_alloc ?_ _)); exact BK237.out⟩, ⟨by repeat (first | (with_reducible first | exact HB.out | apply below_alloc | apply pw_below_drewN | apply below_drew1 | refine below_set ?_ GE234.out | refine below_set ?_ GE237.out) | exact HB.out)⟩⟩
                          case rest =>
                            clear HC27
                            try clear c1
                            try clear c2
                            try clear p2
                            try clear q2
                            try clear hx2
                            try clear c3
                            try clear c3b0
                            try clear c4
                            try clear c5
                            try clear c6
                            try clear c6b0
                            try clear p6
                            try clear c10
                            try clear c12
                            try clear c13
                            try clear c15
                            try clear c16
                            try clear c17
                            try clear c18
                            try clear c19
                            try clear c20
                            try clear c23
                            try clear c24
                            try clear p24
                            try clear q24
                            try clear hx24
                            try clear p25
                            try clear q25
                            try clear hx25
                            try clear c28
                            try clear c28b0
                            try clear c30
                            try clear c30b0
                            try clear c30b1
                            try clear c33
                            try clear c33b0
                            try clear c34
                            try clear c34b0
                            try clear c36
                            try clear c37
                            try clear c37b0
                            try clear c41
                            try clear c50
                            try clear hcz11_0
                            try clear hcz11_1
                            try clear hcz11_2
                            try clear hcz11_3
                            try clear hcz11_4
                            try clear hcz11_5
                            try clear hcz14_0
                            try clear hcz14_1
                            try clear hcz14_2
                            try clear hcz14_3
                            try clear hcz14_4
                            try clear hcz14_5
                            try clear hcz19_0
                            try clear hcz19_1
                            try clear hcz19_2
                            try clear hcz19_3
                            try clear hcz19_4
                            try clear hcz20_0
                            try clear hcz20_1
                            try clear hcz20_2
                            try clear hcz20_3
                            try clear hcz20_4
                            try clear hcz20_5
                            try clear hcz25_0
                            try clear hcz25_1
                            try clear hcz25_2
                            try clear hcz25_3
                            try clear hcz25_4
                            try clear hcz25_5
                            try clear hcz42_0
                            try clear hcz42_1
                            try clear hcz42_2
                            try clear hcz42_3
                            try clear hcz42_4
                            try clear hcz42_5
                            try clear hcz46_0
                            try clear hcz46_1
                            try clear hcz46_2
                            try clear hcz46_3
                            try clear hcz46_4
                            try clear hcz46_5
                            try clear hcz51_0
                            try clear hcz51_1
                            try clear hcz51_2
                            try clear hcz51_3
                            try clear hcz51_4
                            try clear hcz51_5
                            try clear hfz11_0
                            try clear hfz11_1
                            try clear hfz11_2
                            try clear hfz11_3
                            try clear hfz11_4
                            try clear hfz11_5
                            try clear hfz14_0
                            try clear hfz14_1
                            try clear hfz14_2
                            try clear hfz14_3
                            try clear hfz14_4
                            try clear hfz14_5
                            try clear hfz19_0
                            try clear hfz19_1
                            try clear hfz19_2
                            try clear hfz19_3
                            try clear hfz19_4
                            try clear hfz20_0
                            try clear hfz20_1
                            try clear hfz20_2
                            try clear hfz20_3
                            try clear hfz20_4
                            try clear hfz20_5
                            try clear hfz25_0
                            try clear hfz25_1
                            try clear hfz25_2
                            try clear hfz25_3
                            try clear hfz25_4
                            try clear hfz25_5
                            try clear hfz42_0
                            try clear hfz42_1
                            try clear hfz42_2
                            try clear hfz42_3
                            try clear hfz42_4
                            try clear hfz42_5
                            try clear hfz46_0
                            try clear hfz46_1
                            try clear hfz46_2
                            try clear hfz46_3
                            try clear hfz46_4
                            try clear hfz46_5
                            try clear hfz51_0
                            try clear hfz51_1
                            try clear hfz51_2
                            try clear hfz51_3
                            try clear hfz51_4
                            try clear hfz51_5
                            try clear hx245_0
                            try clear hx250_0
                            try clear p2
                            try clear p245
                            try clear p250
                            try clear p6
                            try clear q245
                            try clear q250
                            obtain ⟨kq, x238004_26, HA, HJ26, BK234, BK237, HB⟩ := hcut
                            cases kq with
                            | zero => exact absurd HA.out (by simp [sledgelaw4_BitsEach.j5])
                            | succ kj26 =>
                              have H := HA.out
                              clear HA
                              simp only [sledgelaw4_BitsEach.j5] at H
                              replace H := Option.bind_eq_some_iff.mp H
                              obtain ⟨⟨t251, t252⟩, A520, H⟩ := H
                              replace H : ((bits_Ins.f kj26 t251).bind fun bt253 => ((sledgeref3_Ins.f kj26 x3_1 x238001_7 x238002_15 x238003_21 x238004_26 (⟨#[]⟩ : ByteArray)).bind fun t261 => (if t261 = true then ((sledgelaw4_num.f t252).bind fun t262 => (if t262 = 0 then ((sledgelaw4_num.f bt253.2.2.2.2.2.2).bind fun t263 => (if t263 = 0 then ((sledgeref3_Word.f kj26 x3_1 x238001_7 x238002_15 x238003_21 x238004_26 (⟨#[]⟩ : ByteArray)).bind fun t264 => (if t251 = t264 then (sledgelaw4_BitsEach.j6 kj26 x3_1 t236 x5_2 (!(bt253.1 == x3_1) || (!(bt253.2.1 == x238001_7) || (!(bt253.2.2.1 == x238002_15) || (!(bt253.2.2.2.1 == x238003_21) || (!(bt253.2.2.2.2.1 == x238004_26) || (!(bt253.2.2.2.2.2.1.toList == (⟨#[]⟩ : ByteArray).toList))))))) l0_0 l0_1 l0_2 l0_3 l0_4) else (sledgelaw4_BitsEach.j6 kj26 x3_1 t236 x5_2 true l0_0 l0_1 l0_2 l0_3 l0_4))) else (sledgelaw4_BitsEach.j6 kj26 x3_1 t236 x5_2 true l0_0 l0_1 l0_2 l0_3 l0_4))) else (sledgelaw4_BitsEach.j6 kj26 x3_1 t236 x5_2 true l0_0 l0_1 l0_2 l0_3 l0_4))) else (sledgelaw4_BitsEach.j6 kj26 x3_1 t236 x5_2 true l0_0 l0_1 l0_2 l0_3 l0_4)))) = some r := H
                              have A52 := Aside0.mk A520
                              clear A520
                              replace H := Option.bind_eq_some_iff.mp H
                              obtain ⟨⟨t253, t254, t255, t256, t257, t258, t259⟩, A530, H⟩ := H
                              replace H : ((sledgeref3_Ins.f kj26 x3_1 x238001_7 x238002_15 x238003_21 x238004_26 (⟨#[]⟩ : ByteArray)).bind fun t261 => (if t261 = true then ((sledgelaw4_num.f t252).bind fun t262 => (if t262 = 0 then ((sledgelaw4_num.f t259).bind fun t263 => (if t263 = 0 then ((sledgeref3_Word.f kj26 x3_1 x238001_7 x238002_15 x238003_21 x238004_26 (⟨#[]⟩ : ByteArray)).bind fun t264 => (if t251 = t264 then (sledgelaw4_BitsEach.j6 kj26 x3_1 t236 x5_2 (!(t253 == x3_1) || (!(t254 == x238001_7) || (!(t255 == x238002_15) || (!(t256 == x238003_21) || (!(t257 == x238004_26) || (!(t258.toList == (⟨#[]⟩ : ByteArray).toList))))))) l0_0 l0_1 l0_2 l0_3 l0_4) else (sledgelaw4_BitsEach.j6 kj26 x3_1 t236 x5_2 true l0_0 l0_1 l0_2 l0_3 l0_4))) else (sledgelaw4_BitsEach.j6 kj26 x3_1 t236 x5_2 true l0_0 l0_1 l0_2 l0_3 l0_4))) else (sledgelaw4_BitsEach.j6 kj26 x3_1 t236 x5_2 true l0_0 l0_1 l0_2 l0_3 l0_4))) else (sledgelaw4_BitsEach.j6 kj26 x3_1 t236 x5_2 true l0_0 l0_1 l0_2 l0_3 l0_4))) = some r := H
                              have A53 := Aside0.mk A530
                              clear A530
                              have HC54 := Aside0.mk H
                              clear H
                              have hnb55 := NB237_234.out
                              have hnc55 := NB234_237.out
                              have hcz56_0 : wc.cell? ⟨gb237, 0, none⟩ = some (.int .i64 x3_1) := (blk_cell BK237.out 0).trans rfl
                              have hcz56_1 : wc.cell? ⟨gb237, 1, none⟩ = some (.int .i64 x238001_7) := (blk_cell BK237.out 1).trans rfl
                              have hcz56_2 : wc.cell? ⟨gb237, 2, none⟩ = some (.int .i64 x238002_15) := (blk_cell BK237.out 2).trans rfl
                              have hcz56_3 : wc.cell? ⟨gb237, 3, none⟩ = some (.int .i64 x238003_21) := (blk_cell BK237.out 3).trans rfl
                              have hcz56_4 : wc.cell? ⟨gb237, 4, none⟩ = some (.int .i64 x238004_26) := (blk_cell BK237.out 4).trans rfl
                              have hcz56_5 : wc.cell? ⟨gb237, 5, none⟩ = some (.string (⟨#[]⟩ : ByteArray)) := (blk_cell BK237.out 5).trans rfl
                              have hfz56_0 := blk_frozen BK237.out 0
                              have hfz56_1 := blk_frozen BK237.out 1
                              have hfz56_2 := blk_frozen BK237.out 2
                              have hfz56_3 := blk_frozen BK237.out 3
                              have hfz56_4 := blk_frozen BK237.out 4
                              have hfz56_5 := blk_frozen BK237.out 5
                              go_upto_region 23 with (first | ((with_reducible refine gate_callee (f := 8) rfl ?_); refine goesL_ (some 76) rfl rfl Try.func8 (by kernel_rfl) rfl #[.agg #[.int .i64 x3_1, .int .i64 x238001_7, .int .i64 x238002_15, .int .i64 x238003_21, .int .i64 x238004_26, .string (⟨#[]⟩ : ByteArray)]] rfl (by (try simp only [List.map_toArray, List.map_cons, List.map_nil]); first | done | rfl | (simp only [List.length_drop, List.length_take]; rfl)) ?_; (with_reducible refine (bits_Word.calls kj26 x3_1 x238001_7 x238002_15 x238003_21 x238004_26 (⟨#[]⟩ : ByteArray) t251 t252 _ A52.out).mono ?_); rintro e w57 ⟨rfl, hb⟩; refine ⟨_, rfl, ?_⟩; have n0_ := Aside0.mk (blk_below (g := gb234) (o := .cells #[.slice A0_0 l0_0.length c0_0, .slice A0_1 l0_1.length c0_1, .slice A0_2 l0_2.length c0_2, .slice A0_3 l0_3.length c0_3, .slice A0_4 l0_4.length c0_4] 32 (0, 0)) (by (with_reducible repeat (first | refine blk_drewN ?_ _ | refine blk_drew ?_ | refine blk_alloc ?_ _)); exact BK234.out) hb); have n1_ := Aside0.mk (blk_below (g := gb237) (o := .cells #[.int .i64 x3_1, .int .i64 x238001_7, .int .i64 x238002_15, .int .i64 x238003_21, .int .i64 x238004_26, .string (⟨#[]⟩ : ByteArray)] 35 (0, 0)) (by (with_reducible repeat (first | refine blk_drewN ?_ _ | refine blk_drew ?_ | refine blk_alloc ?_ _)); exact BK237.out) hb); have n2_ := Aside0.mk (below_step (by repeat (first | (with_reducible first | exact HB.out | apply below_alloc | apply pw_below_drewN | apply below_drew1 | refine below_set ?_ GE234.out | refine below_set ?_ GE237.out) | exact HB.out)) hb); clear BK234; clear BK237; clear HB; have BK234 := n0_; have BK237 := n1_; have HB := n2_; clear n0_ n1_ n2_; (try clear hb); (try clear hb2); (try clear hk); (try clear hi)) | ((with_reducible refine gate_callee (f := 12) rfl ?_); refine goesL_ (some 81) rfl rfl Try.func12 (by kernel_rfl) rfl #[.int .u32 t251] rfl (by (try simp only [List.map_toArray, List.map_cons, List.map_nil]); first | done | rfl | (simp only [List.length_drop, List.length_take]; rfl)) ?_; (with_reducible refine (bits_Ins.calls kj26 t251 t253 t254 t255 t256 t257 t258 t259 _ A53.out).mono ?_); rintro e w58 ⟨rfl, hb⟩; refine ⟨_, rfl, ?_⟩; have n0_ := Aside0.mk (blk_below (g := gb234) (o := .cells #[.slice A0_0 l0_0.length c0_0, .slice A0_1 l0_1.length c0_1, .slice A0_2 l0_2.length c0_2, .slice A0_3 l0_3.length c0_3, .slice A0_4 l0_4.length c0_4] 32 (0, 0)) (by (with_reducible repeat (first | refine blk_drewN ?_ _ | refine blk_drew ?_ | refine blk_alloc ?_ _)); exact BK234.out) hb); have n1_ := Aside0.mk (blk_below (g := gb237) (o := .cells #[.int .i64 x3_1, .int .i64 x238001_7, .int .i64 x238002_15, .int .i64 x238003_21, .int .i64 x238004_26, .string (⟨#[]⟩ : ByteArray)] 35 (0, 0)) (by (with_reducible repeat (first | refine blk_drewN ?_ _ | refine blk_drew ?_ | refine blk_alloc ?_ _)); exact BK237.out) hb); have n2_ := Aside0.mk (below_step (by repeat (first | (with_reducible first | exact HB.out | apply below_alloc | apply pw_below_drewN | apply below_drew1 | refine below_set ?_ GE234.out | refine below_set ?_ GE237.out) | exact HB.out)) hb); clear BK234; clear BK237; clear HB; have BK234 := n0_; have BK237 := n1_; have HB := n2_; clear n0_ n1_ n2_; (try clear hb); (try clear hb2); (try clear hk); (try clear hi)) | ((with_reducible refine gate_dst (N := 11) rfl ?_); refine box_event ?hg (N := 11) ?hd (cs := #[.int .i64 0, .int .i64 0, .int .i64 0, .int .i64 0, .int .i64 0, .string (⟨#[]⟩ : ByteArray)]) (t := 35) ?hr ?_; (case hd => rfl); (case hg => rfl); (case hr => first | (go_simp; done) | (go_simp; rfl)); intro gb260 hg w59 hbox hb; have n0_ := Aside0.mk (blk_below (g := gb234) (o := .cells #[.slice A0_0 l0_0.length c0_0, .slice A0_1 l0_1.length c0_1, .slice A0_2 l0_2.length c0_2, .slice A0_3 l0_3.length c0_3, .slice A0_4 l0_4.length c0_4] 32 (0, 0)) (by (with_reducible repeat (first | refine blk_drewN ?_ _ | refine blk_drew ?_ | refine blk_alloc ?_ _)); exact BK234.out) hb); have n1_ := Aside0.mk (blk_below (g := gb237) (o := .cells #[.int .i64 x3_1, .int .i64 x238001_7, .int .i64 x238002_15, .int .i64 x238003_21, .int .i64 x238004_26, .string (⟨#[]⟩ : ByteArray)] 35 (0, 0)) (by (with_reducible repeat (first | refine blk_drewN ?_ _ | refine blk_drew ?_ | refine blk_alloc ?_ _)); exact BK237.out) hb); have n2_ := Aside0.mk (below_step (by repeat (first | (with_reducible first | exact HB.out | apply below_alloc | apply pw_below_drewN | apply below_drew1 | refine below_set ?_ GE234.out | refine below_set ?_ GE237.out) | exact HB.out)) hb); have n3_ := Aside0.mk (hbox); have n4_ := Aside0.mk ((by rw [hg]; exact (below_size (by repeat (first | (with_reducible first | exact HB.out | apply below_alloc | apply pw_below_drewN | apply below_drew1 | refine below_set ?_ GE234.out | refine below_set ?_ GE237.out) | exact HB.out))) : w.heap.size ≤ gb260)); have n5_ := Aside0.mk ((by rw [hg]; exact (below_size (by repeat (first | (with_reducible first | exact HB.out | apply below_alloc | apply pw_below_drewN | apply below_drew1 | refine below_set ?_ GE234.out | refine below_set ?_ GE237.out) | exact HB.out))) : w.heap.size ≤ gb260)); have n6_ := Aside0.mk ((by rw [hg]; exact Nat.ne_of_lt (blk_lt (g := gb234) (o := .cells #[.slice A0_0 l0_0.length c0_0, .slice A0_1 l0_1.length c0_1, .slice A0_2 l0_2.length c0_2, .slice A0_3 l0_3.length c0_3, .slice A0_4 l0_4.length c0_4] 32 (0, 0)) (by (with_reducible repeat (first | refine blk_drewN ?_ _ | refine blk_drew ?_ | refine blk_alloc ?_ _)); exact BK234.out)) : gb234 ≠ gb260)); have n7_ := Aside0.mk ((by rw [hg]; exact Nat.ne_of_gt (blk_lt (g := gb234) (o := .cells #[.slice A0_0 l0_0.length c0_0, .slice A0_1 l0_1.length c0_1, .slice A0_2 l0_2.length c0_2, .slice A0_3 l0_3.length c0_3, .slice A0_4 l0_4.length c0_4] 32 (0, 0)) (by (with_reducible repeat (first | refine blk_drewN ?_ _ | refine blk_drew ?_ | refine blk_alloc ?_ _)); exact BK234.out)) : gb260 ≠ gb234)); have n8_ := Aside0.mk ((by rw [hg]; exact Nat.ne_of_lt (blk_lt (g := gb237) (o := .cells #[.int .i64 x3_1, .int .i64 x238001_7, .int .i64 x238002_15, .int .i64 x238003_21, .int .i64 x238004_26, .string (⟨#[]⟩ : ByteArray)] 35 (0, 0)) (by (with_reducible repeat (first | refine blk_drewN ?_ _ | refine blk_drew ?_ | refine blk_alloc ?_ _)); exact BK237.out)) : gb237 ≠ gb260)); have n9_ := Aside0.mk ((by rw [hg]; exact Nat.ne_of_gt (blk_lt (g := gb237) (o := .cells #[.int .i64 x3_1, .int .i64 x238001_7, .int .i64 x238002_15, .int .i64 x238003_21, .int .i64 x238004_26, .string (⟨#[]⟩ : ByteArray)] 35 (0, 0)) (by (with_reducible repeat (first | refine blk_drewN ?_ _ | refine blk_drew ?_ | refine blk_alloc ?_ _)); exact BK237.out)) : gb260 ≠ gb237)); clear BK234; clear BK237; clear HB; have BK234 := n0_; have BK237 := n1_; have HB := n2_; have BK260 := n3_; have GW260 := n4_; have GE260 := n5_; have NB234_260 := n6_; have NB260_234 := n7_; have NB237_260 := n8_; have NB260_237 := n9_; clear n0_ n1_ n2_ n3_ n4_ n5_ n6_ n7_ n8_ n9_; clear hb hbox hg; have hnb60 := NB260_234.out; have hnc60 := NB234_260.out; have hnb61 := NB260_237.out; have hnc61 := NB237_260.out; have hcz62_0 : w59.cell? ⟨gb260, 0, none⟩ = some (.int .i64 0) := (blk_cell BK260.out 0).trans rfl; have hcz62_1 : w59.cell? ⟨gb260, 1, none⟩ = some (.int .i64 0) := (blk_cell BK260.out 1).trans rfl; have hcz62_2 : w59.cell? ⟨gb260, 2, none⟩ = some (.int .i64 0) := (blk_cell BK260.out 2).trans rfl; have hcz62_3 : w59.cell? ⟨gb260, 3, none⟩ = some (.int .i64 0) := (blk_cell BK260.out 3).trans rfl; have hcz62_4 : w59.cell? ⟨gb260, 4, none⟩ = some (.int .i64 0) := (blk_cell BK260.out 4).trans rfl; have hcz62_5 : w59.cell? ⟨gb260, 5, none⟩ = some (.string (⟨#[]⟩ : ByteArray)) := (blk_cell BK260.out 5).trans rfl; have hfz62_0 := blk_frozen BK260.out 0; have hfz62_1 := blk_frozen BK260.out 1; have hfz62_2 := blk_frozen BK260.out 2; have hfz62_3 := blk_frozen BK260.out 3; have hfz62_4 := blk_frozen BK260.out 4; have hfz62_5 := blk_frozen BK260.out 5))
                              (try simp only [Act.put, List.setIfInBounds_toArray, List.set_cons_zero, List.set_cons_succ])
                              go_cut [107] (fun v107 wc => ∃ (kq : Nat) (x107_53 : Bool), v107 = .bool x107_53 ∧ Aside0 (sledgelaw4_BitsEach.j6 kq x3_1 t236 x5_2 x107_53 l0_0 l0_1 l0_2 l0_3 l0_4 = some r) ∧ Aside0 (kq ≤ kj26) ∧ Aside0 (wc.heap[gb234]? = some (.cells #[(.slice A0_0 l0_0.length c0_0), (.slice A0_1 l0_1.length c0_1), (.slice A0_2 l0_2.length c0_2), (.slice A0_3 l0_3.length c0_3), (.slice A0_4 l0_4.length c0_4)] 32 (0, 0))) ∧ Aside0 (wc.heap[gb237]? = some (.cells #[.int .i64 x3_1, .int .i64 x238001_7, .int .i64 x238002_15, .int .i64 x238003_21, .int .i64 x238004_26, .string (⟨#[]⟩ : ByteArray)] 35 (0, 0))) ∧ Aside0 (wc.heap[gb260]? = some (.cells #[.int .i64 t253, .int .i64 t254, .int .i64 t255, .int .i64 t256, .int .i64 t257, .string t258] 35 (0, 0))) ∧ Aside0 (Below w.heap.size w wc))
                              case first =>
                                have H := HC54.out
                                clear HC54
                                replace H := Option.bind_eq_some_iff.mp H
                                obtain ⟨t261, A630, H⟩ := H
                                replace H : (if t261 = true then ((sledgelaw4_num.f t252).bind fun t262 => (if t262 = 0 then ((sledgelaw4_num.f t259).bind fun t263 => (if t263 = 0 then ((sledgeref3_Word.f kj26 x3_1 x238001_7 x238002_15 x238003_21 x238004_26 (⟨#[]⟩ : ByteArray)).bind fun t264 => (if t251 = t264 then (sledgelaw4_BitsEach.j6 kj26 x3_1 t236 x5_2 (!(t253 == x3_1) || (!(t254 == x238001_7) || (!(t255 == x238002_15) || (!(t256 == x238003_21) || (!(t257 == x238004_26) || (!(t258.toList == (⟨#[]⟩ : ByteArray).toList))))))) l0_0 l0_1 l0_2 l0_3 l0_4) else (sledgelaw4_BitsEach.j6 kj26 x3_1 t236 x5_2 true l0_0 l0_1 l0_2 l0_3 l0_4))) else (sledgelaw4_BitsEach.j6 kj26 x3_1 t236 x5_2 true l0_0 l0_1 l0_2 l0_3 l0_4))) else (sledgelaw4_BitsEach.j6 kj26 x3_1 t236 x5_2 true l0_0 l0_1 l0_2 l0_3 l0_4))) else (sledgelaw4_BitsEach.j6 kj26 x3_1 t236 x5_2 true l0_0 l0_1 l0_2 l0_3 l0_4)) = some r := H
                                have A63 := Aside0.mk A630
                                clear A630
                                by_cases c64 : t261 = true
                                · subst c64
                                  have H1 : ((sledgelaw4_num.f t252).bind fun t262 => (if t262 = 0 then ((sledgelaw4_num.f t259).bind fun t263 => (if t263 = 0 then ((sledgeref3_Word.f kj26 x3_1 x238001_7 x238002_15 x238003_21 x238004_26 (⟨#[]⟩ : ByteArray)).bind fun t264 => (if t251 = t264 then (sledgelaw4_BitsEach.j6 kj26 x3_1 t236 x5_2 (!(t253 == x3_1) || (!(t254 == x238001_7) || (!(t255 == x238002_15) || (!(t256 == x238003_21) || (!(t257 == x238004_26) || (!(t258.toList == (⟨#[]⟩ : ByteArray).toList))))))) l0_0 l0_1 l0_2 l0_3 l0_4) else (sledgelaw4_BitsEach.j6 kj26 x3_1 t236 x5_2 true l0_0 l0_1 l0_2 l0_3 l0_4))) else (sledgelaw4_BitsEach.j6 kj26 x3_1 t236 x5_2 true l0_0 l0_1 l0_2 l0_3 l0_4))) else (sledgelaw4_BitsEach.j6 kj26 x3_1 t236 x5_2 true l0_0 l0_1 l0_2 l0_3 l0_4))) = some r := by rw [if_pos rfl] at H; exact H
                                  clear H
                                  have H := H1
                                  clear H1
                                  replace H := Option.bind_eq_some_iff.mp H
                                  obtain ⟨t262, A650, H⟩ := H
                                  replace H : (if t262 = 0 then ((sledgelaw4_num.f t259).bind fun t263 => (if t263 = 0 then ((sledgeref3_Word.f kj26 x3_1 x238001_7 x238002_15 x238003_21 x238004_26 (⟨#[]⟩ : ByteArray)).bind fun t264 => (if t251 = t264 then (sledgelaw4_BitsEach.j6 kj26 x3_1 t236 x5_2 (!(t253 == x3_1) || (!(t254 == x238001_7) || (!(t255 == x238002_15) || (!(t256 == x238003_21) || (!(t257 == x238004_26) || (!(t258.toList == (⟨#[]⟩ : ByteArray).toList))))))) l0_0 l0_1 l0_2 l0_3 l0_4) else (sledgelaw4_BitsEach.j6 kj26 x3_1 t236 x5_2 true l0_0 l0_1 l0_2 l0_3 l0_4))) else (sledgelaw4_BitsEach.j6 kj26 x3_1 t236 x5_2 true l0_0 l0_1 l0_2 l0_3 l0_4))) else (sledgelaw4_BitsEach.j6 kj26 x3_1 t236 x5_2 true l0_0 l0_1 l0_2 l0_3 l0_4)) = some r := H
                                  have A65 := Aside0.mk A650
                                  clear A650
                                  by_cases c66 : t262 = 0
                                  · rw [if_pos c66] at H
                                    have c66b0 : (t262 == 0) = true := beq_iff_eq.mpr c66
                                    have c66b1 : (t262 != 0) = false := bne_eq_false_iff_eq.mpr c66
                                    clear c66
                                    (first | rw [c66b0] | (simp only [i64_w, i32_w]; rw [c66b0]) | skip)
                                    replace H := Option.bind_eq_some_iff.mp H
                                    obtain ⟨t263, A670, H⟩ := H
                                    replace H : (if t263 = 0 then ((sledgeref3_Word.f kj26 x3_1 x238001_7 x238002_15 x238003_21 x238004_26 (⟨#[]⟩ : ByteArray)).bind fun t264 => (if t251 = t264 then (sledgelaw4_BitsEach.j6 kj26 x3_1 t236 x5_2 (!(t253 == x3_1) || (!(t254 == x238001_7) || (!(t255 == x238002_15) || (!(t256 == x238003_21) || (!(t257 == x238004_26) || (!(t258.toList == (⟨#[]⟩ : ByteArray).toList))))))) l0_0 l0_1 l0_2 l0_3 l0_4) else (sledgelaw4_BitsEach.j6 kj26 x3_1 t236 x5_2 true l0_0 l0_1 l0_2 l0_3 l0_4))) else (sledgelaw4_BitsEach.j6 kj26 x3_1 t236 x5_2 true l0_0 l0_1 l0_2 l0_3 l0_4)) = some r := H
                                    have A67 := Aside0.mk A670
                                    clear A670
                                    by_cases c68 : t263 = 0
                                    · rw [if_pos c68] at H
                                      have c68b0 : (t263 == 0) = true := beq_iff_eq.mpr c68
                                      have c68b1 : (t263 != 0) = false := bne_eq_false_iff_eq.mpr c68
                                      clear c68
                                      replace H := Option.bind_eq_some_iff.mp H
                                      obtain ⟨t264, A690, H⟩ := H
                                      replace H : (if t251 = t264 then (sledgelaw4_BitsEach.j6 kj26 x3_1 t236 x5_2 (!(t253 == x3_1) || (!(t254 == x238001_7) || (!(t255 == x238002_15) || (!(t256 == x238003_21) || (!(t257 == x238004_26) || (!(t258.toList == (⟨#[]⟩ : ByteArray).toList))))))) l0_0 l0_1 l0_2 l0_3 l0_4) else (sledgelaw4_BitsEach.j6 kj26 x3_1 t236 x5_2 true l0_0 l0_1 l0_2 l0_3 l0_4)) = some r := H
                                      have A69 := Aside0.mk A690
                                      clear A690
                                      by_cases c70 : t251 = t264
                                      · rw [if_pos c70] at H
                                        have c70b0 : (t251 == t264) = true := beq_iff_eq.mpr c70
                                        have c70b1 : (t251 != t264) = false := bne_eq_false_iff_eq.mpr c70
                                        clear c70
                                        have H' := Aside0.mk H
                                        clear H
                                        have hnb71 := NB237_234.out
                                        have hnc71 := NB234_237.out
                                        have hnb72 := NB237_260.out
                                        have hnc72 := NB260_237.out
                                        have hcz73_0 : w59.cell? ⟨gb237, 0, none⟩ = some (.int .i64 x3_1) := (blk_cell BK237.out 0).trans rfl
                                        have hcz73_1 : w59.cell? ⟨gb237, 1, none⟩ = some (.int .i64 x238001_7) := (blk_cell BK237.out 1).trans rfl
                                        have hcz73_2 : w59.cell? ⟨gb237, 2, none⟩ = some (.int .i64 x238002_15) := (blk_cell BK237.out 2).trans rfl
                                        have hcz73_3 : w59.cell? ⟨gb237, 3, none⟩ = some (.int .i64 x238003_21) := (blk_cell BK237.out 3).trans rfl
                                        have hcz73_4 : w59.cell? ⟨gb237, 4, none⟩ = some (.int .i64 x238004_26) := (blk_cell BK237.out 4).trans rfl
                                        have hcz73_5 : w59.cell? ⟨gb237, 5, none⟩ = some (.string (⟨#[]⟩ : ByteArray)) := (blk_cell BK237.out 5).trans rfl
                                        have hfz73_0 := blk_frozen BK237.out 0
                                        have hfz73_1 := blk_frozen BK237.out 1
                                        have hfz73_2 := blk_frozen BK237.out 2
                                        have hfz73_3 := blk_frozen BK237.out 3
                                        have hfz73_4 := blk_frozen BK237.out 4
                                        have hfz73_5 := blk_frozen BK237.out 5
                                        go_wp2_with (first | ((with_reducible refine gate_callee (f := 9) rfl ?_); refine goesL_ (some 85) rfl rfl Try.func9 (by kernel_rfl) rfl #[.agg #[.int .i64 x3_1, .int .i64 x238001_7, .int .i64 x238002_15, .int .i64 x238003_21, .int .i64 x238004_26, .string (⟨#[]⟩ : ByteArray)]] rfl (by (try simp only [List.map_toArray, List.map_cons, List.map_nil]); first | done | rfl | (simp only [List.length_drop, List.length_take]; rfl)) ?_; (with_reducible refine (sledgeref3_Ins.calls kj26 x3_1 x238001_7 x238002_15 x238003_21 x238004_26 (⟨#[]⟩ : ByteArray) true _ A63.out).mono ?_); rintro e w74 ⟨rfl, hb⟩; refine ⟨_, rfl, ?_⟩; have n0_ := Aside0.mk (blk_below (g := gb234) (o := .cells #[.slice A0_0 l0_0.length c0_0, .slice A0_1 l0_1.length c0_1, .slice A0_2 l0_2.length c0_2, .slice A0_3 l0_3.length c0_3, .slice A0_4 l0_4.length c0_4] 32 (0, 0)) (by (with_reducible repeat (first | refine blk_drewN ?_ _ | refine blk_drew ?_ | refine blk_alloc ?_ _)); refine blk_far ?_ NB234_260.out _; (with_reducible repeat (first | refine blk_drewN ?_ _ | refine blk_drew ?_ | refine blk_alloc ?_ _)); refine blk_far ?_ NB234_260.out _; (with_reducible repeat (first | refine blk_drewN ?_ _ | refine blk_drew ?_ | refine blk_alloc ?_ _)); refine blk_far ?_ NB234_260.out _; (with_reducible repeat (first | refine blk_drewN ?_ _ | refine blk_drew ?_ | refine blk_alloc ?_ _)); refine blk_far ?_ NB234_260.out _; (with_reducible repeat (first | refine blk_drewN ?_ _ | refine blk_drew ?_ | refine blk_alloc ?_ _)); refine blk_far ?_ NB234_260.out _; (with_reducible repeat (first | refine blk_drewN ?_ _ | refine blk_drew ?_ | refine blk_alloc ?_ _)); refine blk_far ?_ NB234_260.out _; (with_reducible repeat (first | refine blk_drewN ?_ _ | refine blk_drew ?_ | refine blk_alloc ?_ _)); exact BK234.out) hb); have n1_ := Aside0.mk (blk_below (g := gb237) (o := .cells #[.int .i64 x3_1, .int .i64 x238001_7, .int .i64 x238002_15, .int .i64 x238003_21, .int .i64 x238004_26, .string (⟨#[]⟩ : ByteArray)] 35 (0, 0)) (by (with_reducible repeat (first | refine blk_drewN ?_ _ | refine blk_drew ?_ | refine blk_alloc ?_ _)); refine blk_far ?_ NB237_260.out _; (with_reducible repeat (first | refine blk_drewN ?_ _ | refine blk_drew ?_ | refine blk_alloc ?_ _)); refine blk_far ?_ NB237_260.out _; (with_reducible repeat (first | refine blk_drewN ?_ _ | refine blk_drew ?_ | refine blk_alloc ?_ _)); refine blk_far ?_ NB237_260.out _; (with_reducible repeat (first | refine blk_drewN ?_ _ | refine blk_drew ?_ | refine blk_alloc ?_ _)); refine blk_far ?_ NB237_260.out _; (with_reducible repeat (first | refine blk_drewN ?_ _ | refine blk_drew ?_ | refine blk_alloc ?_ _)); refine blk_far ?_ NB237_260.out _; (with_reducible repeat (first | refine blk_drewN ?_ _ | refine blk_drew ?_ | refine blk_alloc ?_ _)); refine blk_far ?_ NB237_260.out _; (with_reducible repeat (first | refine blk_drewN ?_ _ | refine blk_drew ?_ | refine blk_alloc ?_ _)); exact BK237.out) hb); have n2_ := Aside0.mk (blk_below (g := gb260) (o := .cells #[.int .i64 t253, .int .i64 t254, .int .i64 t255, .int .i64 t256, .int .i64 t257, .string t258] 35 (0, 0)) (by (with_reducible repeat (first | refine blk_drewN ?_ _ | refine blk_drew ?_ | refine blk_alloc ?_ _)); refine blk_put (cs := #[.int .i64 t253, .int .i64 t254, .int .i64 t255, .int .i64 t256, .int .i64 t257, .string (⟨#[]⟩ : ByteArray)]) ?_ 5 _ rfl; (with_reducible repeat (first | refine blk_drewN ?_ _ | refine blk_drew ?_ | refine blk_alloc ?_ _)); refine blk_put (cs := #[.int .i64 t253, .int .i64 t254, .int .i64 t255, .int .i64 t256, .int .i64 0, .string (⟨#[]⟩ : ByteArray)]) ?_ 4 _ rfl; (with_reducible repeat (first | refine blk_drewN ?_ _ | refine blk_drew ?_ | refine blk_alloc ?_ _)); refine blk_put (cs := #[.int .i64 t253, .int .i64 t254, .int .i64 t255, .int .i64 0, .int .i64 0, .string (⟨#[]⟩ : ByteArray)]) ?_ 3 _ rfl; (with_reducible repeat (first | refine blk_drewN ?_ _ | refine blk_drew ?_ | refine blk_alloc ?_ _)); refine blk_put (cs := #[.int .i64 t253, .int .i64 t254, .int .i64 0, .int .i64 0, .int .i64 0, .string (⟨#[]⟩ : ByteArray)]) ?_ 2 _ rfl; (with_reducible repeat (first | refine blk_drewN ?_ _ | refine blk_drew ?_ | refine blk_alloc ?_ _)); refine blk_put (cs := #[.int .i64 t253, .int .i64 0, .int .i64 0, .int .i64 0, .int .i64 0, .string (⟨#[]⟩ : ByteArray)]) ?_ 1 _ rfl; (with_reducible repeat (first | refine blk_drewN ?_ _ | refine blk_drew ?_ | refine blk_alloc ?_ _)); refine blk_put (cs := #[.int .i64 0, .int .i64 0, .int .i64 0, .int .i64 0, .int .i64 0, .string (⟨#[]⟩ : ByteArray)]) ?_ 0 _ rfl; (with_reducible repeat (first | refine blk_drewN ?_ _ | refine blk_drew ?_ | refine blk_alloc ?_ _)); exact BK260.out) hb); have n3_ := Aside0.mk (below_step (by repeat (first | (with_reducible first | exact HB.out | apply below_alloc | apply pw_below_drewN | apply below_drew1 | refine below_set ?_ GE234.out | refine below_set ?_ GE237.out | refine below_set ?_ GE260.out) | exact HB.out)) hb); clear BK234; clear BK237; clear BK260; clear HB; have BK234 := n0_; have BK237 := n1_; have BK260 := n2_; have HB := n3_; clear n0_ n1_ n2_ n3_; (try clear hb); (try clear hb2); (try clear hk); (try clear hi)) | (go_at_call 11; (with_reducible refine (sledgelaw4_num.calls t252 t262 _ A65.out).mono ?_); rintro e w' ⟨rfl, ⟨nd, rfl⟩⟩) | (go_at_call 11; (with_reducible refine (sledgelaw4_num.calls t259 t263 _ A67.out).mono ?_); rintro e w' ⟨rfl, ⟨nd, rfl⟩⟩; have hcz75_0 : w74.cell? ⟨gb237, 0, none⟩ = some (.int .i64 x3_1) := (blk_cell BK237.out 0).trans rfl; have hcz75_1 : w74.cell? ⟨gb237, 1, none⟩ = some (.int .i64 x238001_7) := (blk_cell BK237.out 1).trans rfl; have hcz75_2 : w74.cell? ⟨gb237, 2, none⟩ = some (.int .i64 x238002_15) := (blk_cell BK237.out 2).trans rfl; have hcz75_3 : w74.cell? ⟨gb237, 3, none⟩ = some (.int .i64 x238003_21) := (blk_cell BK237.out 3).trans rfl; have hcz75_4 : w74.cell? ⟨gb237, 4, none⟩ = some (.int .i64 x238004_26) := (blk_cell BK237.out 4).trans rfl; have hcz75_5 : w74.cell? ⟨gb237, 5, none⟩ = some (.string (⟨#[]⟩ : ByteArray)) := (blk_cell BK237.out 5).trans rfl; have hfz75_0 := blk_frozen BK237.out 0; have hfz75_1 := blk_frozen BK237.out 1; have hfz75_2 := blk_frozen BK237.out 2; have hfz75_3 := blk_frozen BK237.out 3; have hfz75_4 := blk_frozen BK237.out 4; have hfz75_5 := blk_frozen BK237.out 5) | (go_at_call 10; (with_reducible refine (sledgeref3_Word.calls kj26 x3_1 x238001_7 x238002_15 x238003_21 x238004_26 (⟨#[]⟩ : ByteArray) t264 _ A69.out).mono ?_); rintro e w76 ⟨rfl, hb⟩; have n0_ := Aside0.mk (blk_below (g := gb234) (o := .cells #[.slice A0_0 l0_0.length c0_0, .slice A0_1 l0_1.length c0_1, .slice A0_2 l0_2.length c0_2, .slice A0_3 l0_3.length c0_3, .slice A0_4 l0_4.length c0_4] 32 (0, 0)) (by (with_reducible repeat (first | refine blk_drewN ?_ _ | refine blk_drew ?_ | refine blk_alloc ?_ _)); exact BK234.out) hb); have n1_ := Aside0.mk (blk_below (g := gb237) (o := .cells #[.int .i64 x3_1, .int .i64 x238001_7, .int .i64 x238002_15, .int .i64 x238003_21, .int .i64 x238004_26, .string (⟨#[]⟩ : ByteArray)] 35 (0, 0)) (by (with_reducible repeat (first | refine blk_drewN ?_ _ | refine blk_drew ?_ | refine blk_alloc ?_ _)); exact BK237.out) hb); have n2_ := Aside0.mk (blk_below (g := gb260) (o := .cells #[.int .i64 t253, .int .i64 t254, .int .i64 t255, .int .i64 t256, .int .i64 t257, .string t258] 35 (0, 0)) (by (with_reducible repeat (first | refine blk_drewN ?_ _ | refine blk_drew ?_ | refine blk_alloc ?_ _)); exact BK260.out) hb); have n3_ := Aside0.mk (below_step (by repeat (first | (with_reducible first | exact HB.out | apply below_alloc | apply pw_below_drewN | apply below_drew1 | refine below_set ?_ GE234.out | refine below_set ?_ GE237.out | refine below_set ?_ GE260.out) | exact HB.out)) hb); clear BK234; clear BK237; clear BK260; clear HB; have BK234 := n0_; have BK237 := n1_; have BK260 := n2_; have HB := n3_; clear n0_ n1_ n2_ n3_; (try clear hb); (try clear hb2); (try clear hk); (try clear hi); have hnb77 := NB260_234.out; have hnc77 := NB234_260.out; have hcz78_0 : w76.cell? ⟨gb260, 0, none⟩ = some (.int .i64 t253) := (blk_cell BK260.out 0).trans rfl; have hcz78_1 : w76.cell? ⟨gb260, 1, none⟩ = some (.int .i64 t254) := (blk_cell BK260.out 1).trans rfl; have hcz78_2 : w76.cell? ⟨gb260, 2, none⟩ = some (.int .i64 t255) := (blk_cell BK260.out 2).trans rfl; have hcz78_3 : w76.cell? ⟨gb260, 3, none⟩ = some (.int .i64 t256) := (blk_cell BK260.out 3).trans rfl; have hcz78_4 : w76.cell? ⟨gb260, 4, none⟩ = some (.int .i64 t257) := (blk_cell BK260.out 4).trans rfl; have hcz78_5 : w76.cell? ⟨gb260, 5, none⟩ = some (.string t258) := (blk_cell BK260.out 5).trans rfl; have hfz78_0 := blk_frozen BK260.out 0; have hfz78_1 := blk_frozen BK260.out 1; have hfz78_2 := blk_frozen BK260.out 2; have hfz78_3 := blk_frozen BK260.out 3; have hfz78_4 := blk_frozen BK260.out 4; have hfz78_5 := blk_frozen BK260.out 5; have hcz79_0 : w76.cell? ⟨gb237, 0, none⟩ = some (.int .i64 x3_1) := (blk_cell BK237.out 0).trans rfl; have hcz79_1 : w76.cell? ⟨gb237, 1, none⟩ = some (.int .i64 x238001_7) := (blk_cell BK237.out 1).trans rfl; have hcz79_2 : w76.cell? ⟨gb237, 2, none⟩ = some (.int .i64 x238002_15) := (blk_cell BK237.out 2).trans rfl; have hcz79_3 : w76.cell? ⟨gb237, 3, none⟩ = some (.int .i64 x238003_21) := (blk_cell BK237.out 3).trans rfl; have hcz79_4 : w76.cell? ⟨gb237, 4, none⟩ = some (.int .i64 x238004_26) := (blk_cell BK237.out 4).trans rfl; have hcz79_5 : w76.cell? ⟨gb237, 5, none⟩ = some (.string (⟨#[]⟩ : ByteArray)) := (blk_cell BK237.out 5).trans rfl; have hfz79_0 := blk_frozen BK237.out 0; have hfz79_1 := blk_frozen BK237.out 1; have hfz79_2 := blk_frozen BK237.out 2; have hfz79_3 := blk_frozen BK237.out 3; have hfz79_4 := blk_frozen BK237.out 4; have hfz79_5 := blk_frozen BK237.out 5))
                                        go_meet
                                        case rel => exact ⟨_, ((!(t253 == x3_1) || (!(t254 == x238001_7) || (!(t255 == x238002_15) || (!(t256 == x238003_21) || (!(t257 == x238004_26) || (!(t258.toList == (⟨#[]⟩ : ByteArray).toList)))))))), (by first | rfl | (simp; done) | (simp [*]; done) | (congr 1; rw [Bool.eq_iff_iff]; simp; done)), H', ⟨by have := HK1.out; have := HK2.out; have := HJ7.out; have := HJ15.out; have := HJ21.out; have := HJ26.out; first | omega | exact Nat.le_refl _⟩, ⟨by (with_reducible repeat (first | refine blk_drewN ?_ _ | refine blk_drew ?_ | refine blk_alloc ?_ _)); exact BK234.out⟩, ⟨by (with_reducible repeat (first | refine blk_drewN ?_ _ | refine blk_drew ?_ | refine blk_alloc ?_ _)); exact BK237.out⟩, ⟨by (with_reducible repeat (first | refine blk_drewN ?_ _ | refine blk_drew ?_ | refine blk_alloc ?_ _)); exact BK260.out⟩, ⟨by repeat (first | (with_reducible first | exact HB.out | apply below_alloc | apply pw_below_drewN | apply below_drew1 | refine below_set ?_ GE234.out | refine below_set ?_ GE237.out | refine below_set ?_ GE260.out) | exact HB.out)⟩⟩
                                      · rw [if_neg c70] at H
                                        have c70b0 : (t251 == t264) = false := beq_eq_false_iff_ne.mpr c70
                                        have c70b1 : (t251 != t264) = true := bne_iff_ne.mpr c70
                                        have H' := Aside0.mk H
                                        clear H
                                        have hnb80 := NB237_234.out
                                        have hnc80 := NB234_237.out
                                        have hnb81 := NB237_260.out
                                        have hnc81 := NB260_237.out
                                        have hcz82_0 : w59.cell? ⟨gb237, 0, none⟩ = some (.int .i64 x3_1) := (blk_cell BK237.out 0).trans rfl
                                        have hcz82_1 : w59.cell? ⟨gb237, 1, none⟩ = some (.int .i64 x238001_7) := (blk_cell BK237.out 1).trans rfl
                                        have hcz82_2 : w59.cell? ⟨gb237, 2, none⟩ = some (.int .i64 x238002_15) := (blk_cell BK237.out 2).trans rfl
                                        have hcz82_3 : w59.cell? ⟨gb237, 3, none⟩ = some (.int .i64 x238003_21) := (blk_cell BK237.out 3).trans rfl
                                        have hcz82_4 : w59.cell? ⟨gb237, 4, none⟩ = some (.int .i64 x238004_26) := (blk_cell BK237.out 4).trans rfl
                                        have hcz82_5 : w59.cell? ⟨gb237, 5, none⟩ = some (.string (⟨#[]⟩ : ByteArray)) := (blk_cell BK237.out 5).trans rfl
                                        have hfz82_0 := blk_frozen BK237.out 0
                                        have hfz82_1 := blk_frozen BK237.out 1
                                        have hfz82_2 := blk_frozen BK237.out 2
                                        have hfz82_3 := blk_frozen BK237.out 3
                                        have hfz82_4 := blk_frozen BK237.out 4
                                        have hfz82_5 := blk_frozen BK237.out 5
                                        go_wp2_with (first | ((with_reducible refine gate_callee (f := 9) rfl ?_); refine goesL_ (some 85) rfl rfl Try.func9 (by kernel_rfl) rfl #[.agg #[.int .i64 x3_1, .int .i64 x238001_7, .int .i64 x238002_15, .int .i64 x238003_21, .int .i64 x238004_26, .string (⟨#[]⟩ : ByteArray)]] rfl (by (try simp only [List.map_toArray, List.map_cons, List.map_nil]); first | done | rfl | (simp only [List.length_drop, List.length_take]; rfl)) ?_; (with_reducible refine (sledgeref3_Ins.calls kj26 x3_1 x238001_7 x238002_15 x238003_21 x238004_26 (⟨#[]⟩ : ByteArray) true _ A63.out).mono ?_); rintro e w83 ⟨rfl, hb⟩; refine ⟨_, rfl, ?_⟩; have n0_ := Aside0.mk (blk_below (g := gb234) (o := .cells #[.slice A0_0 l0_0.length c0_0, .slice A0_1 l0_1.length c0_1, .slice A0_2 l0_2.length c0_2, .slice A0_3 l0_3.length c0_3, .slice A0_4 l0_4.length c0_4] 32 (0, 0)) (by (with_reducible repeat (first | refine blk_drewN ?_ _ | refine blk_drew ?_ | refine blk_alloc ?_ _)); refine blk_far ?_ NB234_260.out _; (with_reducible repeat (first | refine blk_drewN ?_ _ | refine blk_drew ?_ | refine blk_alloc ?_ _)); refine blk_far ?_ NB234_260.out _; (with_reducible repeat (first | refine blk_drewN ?_ _ | refine blk_drew ?_ | refine blk_alloc ?_ _)); refine blk_far ?_ NB234_260.out _; (with_reducible repeat (first | refine blk_drewN ?_ _ | refine blk_drew ?_ | refine blk_alloc ?_ _)); refine blk_far ?_ NB234_260.out _; (with_reducible repeat (first | refine blk_drewN ?_ _ | refine blk_drew ?_ | refine blk_alloc ?_ _)); refine blk_far ?_ NB234_260.out _; (with_reducible repeat (first | refine blk_drewN ?_ _ | refine blk_drew ?_ | refine blk_alloc ?_ _)); refine blk_far ?_ NB234_260.out _; (with_reducible repeat (first | refine blk_drewN ?_ _ | refine blk_drew ?_ | refine blk_alloc ?_ _)); exact BK234.out) hb); have n1_ := Aside0.mk (blk_below (g := gb237) (o := .cells #[.int .i64 x3_1, .int .i64 x238001_7, .int .i64 x238002_15, .int .i64 x238003_21, .int .i64 x238004_26, .string (⟨#[]⟩ : ByteArray)] 35 (0, 0)) (by (with_reducible repeat (first | refine blk_drewN ?_ _ | refine blk_drew ?_ | refine blk_alloc ?_ _)); refine blk_far ?_ NB237_260.out _; (with_reducible repeat (first | refine blk_drewN ?_ _ | refine blk_drew ?_ | refine blk_alloc ?_ _)); refine blk_far ?_ NB237_260.out _; (with_reducible repeat (first | refine blk_drewN ?_ _ | refine blk_drew ?_ | refine blk_alloc ?_ _)); refine blk_far ?_ NB237_260.out _; (with_reducible repeat (first | refine blk_drewN ?_ _ | refine blk_drew ?_ | refine blk_alloc ?_ _)); refine blk_far ?_ NB237_260.out _; (with_reducible repeat (first | refine blk_drewN ?_ _ | refine blk_drew ?_ | refine blk_alloc ?_ _)); refine blk_far ?_ NB237_260.out _; (with_reducible repeat (first | refine blk_drewN ?_ _ | refine blk_drew ?_ | refine blk_alloc ?_ _)); refine blk_far ?_ NB237_260.out _; (with_reducible repeat (first | refine blk_drewN ?_ _ | refine blk_drew ?_ | refine blk_alloc ?_ _)); exact BK237.out) hb); have n2_ := Aside0.mk (blk_below (g := gb260) (o := .cells #[.int .i64 t253, .int .i64 t254, .int .i64 t255, .int .i64 t256, .int .i64 t257, .string t258] 35 (0, 0)) (by (with_reducible repeat (first | refine blk_drewN ?_ _ | refine blk_drew ?_ | refine blk_alloc ?_ _)); refine blk_put (cs := #[.int .i64 t253, .int .i64 t254, .int .i64 t255, .int .i64 t256, .int .i64 t257, .string (⟨#[]⟩ : ByteArray)]) ?_ 5 _ rfl; (with_reducible repeat (first | refine blk_drewN ?_ _ | refine blk_drew ?_ | refine blk_alloc ?_ _)); refine blk_put (cs := #[.int .i64 t253, .int .i64 t254, .int .i64 t255, .int .i64 t256, .int .i64 0, .string (⟨#[]⟩ : ByteArray)]) ?_ 4 _ rfl; (with_reducible repeat (first | refine blk_drewN ?_ _ | refine blk_drew ?_ | refine blk_alloc ?_ _)); refine blk_put (cs := #[.int .i64 t253, .int .i64 t254, .int .i64 t255, .int .i64 0, .int .i64 0, .string (⟨#[]⟩ : ByteArray)]) ?_ 3 _ rfl; (with_reducible repeat (first | refine blk_drewN ?_ _ | refine blk_drew ?_ | refine blk_alloc ?_ _)); refine blk_put (cs := #[.int .i64 t253, .int .i64 t254, .int .i64 0, .int .i64 0, .int .i64 0, .string (⟨#[]⟩ : ByteArray)]) ?_ 2 _ rfl; (with_reducible repeat (first | refine blk_drewN ?_ _ | refine blk_drew ?_ | refine blk_alloc ?_ _)); refine blk_put (cs := #[.int .i64 t253, .int .i64 0, .int .i64 0, .int .i64 0, .int .i64 0, .string (⟨#[]⟩ : ByteArray)]) ?_ 1 _ rfl; (with_reducible repeat (first | refine blk_drewN ?_ _ | refine blk_drew ?_ | refine blk_alloc ?_ _)); refine blk_put (cs := #[.int .i64 0, .int .i64 0, .int .i64 0, .int .i64 0, .int .i64 0, .string (⟨#[]⟩ : ByteArray)]) ?_ 0 _ rfl; (with_reducible repeat (first | refine blk_drewN ?_ _ | refine blk_drew ?_ | refine blk_alloc ?_ _)); exact BK260.out) hb); have n3_ := Aside0.mk (below_step (by repeat (first | (with_reducible first | exact HB.out | apply below_alloc | apply pw_below_drewN | apply below_drew1 | refine below_set ?_ GE234.out | refine below_set ?_ GE237.out | refine below_set ?_ GE260.out) | exact HB.out)) hb); clear BK234; clear BK237; clear BK260; clear HB; have BK234 := n0_; have BK237 := n1_; have BK260 := n2_; have HB := n3_; clear n0_ n1_ n2_ n3_; (try clear hb); (try clear hb2); (try clear hk); (try clear hi)) | (go_at_call 11; (with_reducible refine (sledgelaw4_num.calls t252 t262 _ A65.out).mono ?_); rintro e w' ⟨rfl, ⟨nd, rfl⟩⟩) | (go_at_call 11; (with_reducible refine (sledgelaw4_num.calls t259 t263 _ A67.out).mono ?_); rintro e w' ⟨rfl, ⟨nd, rfl⟩⟩; have hcz84_0 : w83.cell? ⟨gb237, 0, none⟩ = some (.int .i64 x3_1) := (blk_cell BK237.out 0).trans rfl; have hcz84_1 : w83.cell? ⟨gb237, 1, none⟩ = some (.int .i64 x238001_7) := (blk_cell BK237.out 1).trans rfl; have hcz84_2 : w83.cell? ⟨gb237, 2, none⟩ = some (.int .i64 x238002_15) := (blk_cell BK237.out 2).trans rfl; have hcz84_3 : w83.cell? ⟨gb237, 3, none⟩ = some (.int .i64 x238003_21) := (blk_cell BK237.out 3).trans rfl; have hcz84_4 : w83.cell? ⟨gb237, 4, none⟩ = some (.int .i64 x238004_26) := (blk_cell BK237.out 4).trans rfl; have hcz84_5 : w83.cell? ⟨gb237, 5, none⟩ = some (.string (⟨#[]⟩ : ByteArray)) := (blk_cell BK237.out 5).trans rfl; have hfz84_0 := blk_frozen BK237.out 0; have hfz84_1 := blk_frozen BK237.out 1; have hfz84_2 := blk_frozen BK237.out 2; have hfz84_3 := blk_frozen BK237.out 3; have hfz84_4 := blk_frozen BK237.out 4; have hfz84_5 := blk_frozen BK237.out 5) | (go_at_call 10; (with_reducible refine (sledgeref3_Word.calls kj26 x3_1 x238001_7 x238002_15 x238003_21 x238004_26 (⟨#[]⟩ : ByteArray) t264 _ A69.out).mono ?_); rintro e w85 ⟨rfl, hb⟩; have n0_ := Aside0.mk (blk_below (g := gb234) (o := .cells #[.slice A0_0 l0_0.length c0_0, .slice A0_1 l0_1.length c0_1, .slice A0_2 l0_2.length c0_2, .slice A0_3 l0_3.length c0_3, .slice A0_4 l0_4.length c0_4] 32 (0, 0)) (by (with_reducible repeat (first | refine blk_drewN ?_ _ | refine blk_drew ?_ | refine blk_alloc ?_ _)); exact BK234.out) hb); have n1_ := Aside0.mk (blk_below (g := gb237) (o := .cells #[.int .i64 x3_1, .int .i64 x238001_7, .int .i64 x238002_15, .int .i64 x238003_21, .int .i64 x238004_26, .string (⟨#[]⟩ : ByteArray)] 35 (0, 0)) (by (with_reducible repeat (first | refine blk_drewN ?_ _ | refine blk_drew ?_ | refine blk_alloc ?_ _)); exact BK237.out) hb); have n2_ := Aside0.mk (blk_below (g := gb260) (o := .cells #[.int .i64 t253, .int .i64 t254, .int .i64 t255, .int .i64 t256, .int .i64 t257, .string t258] 35 (0, 0)) (by (with_reducible repeat (first | refine blk_drewN ?_ _ | refine blk_drew ?_ | refine blk_alloc ?_ _)); exact BK260.out) hb); have n3_ := Aside0.mk (below_step (by repeat (first | (with_reducible first | exact HB.out | apply below_alloc | apply pw_below_drewN | apply below_drew1 | refine below_set ?_ GE234.out | refine below_set ?_ GE237.out | refine below_set ?_ GE260.out) | exact HB.out)) hb); clear BK234; clear BK237; clear BK260; clear HB; have BK234 := n0_; have BK237 := n1_; have BK260 := n2_; have HB := n3_; clear n0_ n1_ n2_ n3_; (try clear hb); (try clear hb2); (try clear hk); (try clear hi)))
                                        go_meet
                                        case rel => exact ⟨_, (true), (by first | rfl | (simp; done) | (simp [*]; done) | (congr 1; rw [Bool.eq_iff_iff]; simp; done)), H', ⟨by have := HK1.out; have := HK2.out; have := HJ7.out; have := HJ15.out; have := HJ21.out; have := HJ26.out; first | omega | exact Nat.le_refl _⟩, ⟨by (with_reducible repeat (first | refine blk_drewN ?_ _ | refine blk_drew ?_ | refine blk_alloc ?_ _)); exact BK234.out⟩, ⟨by (with_reducible repeat (first | refine blk_drewN ?_ _ | refine blk_drew ?_ | refine blk_alloc ?_ _)); exact BK237.out⟩, ⟨by (with_reducible repeat (first | refine blk_drewN ?_ _ | refine blk_drew ?_ | refine blk_alloc ?_ _)); exact BK260.out⟩, ⟨by repeat (first | (with_reducible first | exact HB.out | apply below_alloc | apply pw_below_drewN | apply below_drew1 | refine below_set ?_ GE234.out | refine below_set ?_ GE237.out | refine below_set ?_ GE260.out) | exact HB.out)⟩⟩
                                    · rw [if_neg c68] at H
                                      have c68b0 : (t263 == 0) = false := beq_eq_false_iff_ne.mpr c68
                                      have c68b1 : (t263 != 0) = true := bne_iff_ne.mpr c68
                                      have H' := Aside0.mk H
                                      clear H
                                      have hnb86 := NB237_234.out
                                      have hnc86 := NB234_237.out
                                      have hnb87 := NB237_260.out
                                      have hnc87 := NB260_237.out
                                      have hcz88_0 : w59.cell? ⟨gb237, 0, none⟩ = some (.int .i64 x3_1) := (blk_cell BK237.out 0).trans rfl
                                      have hcz88_1 : w59.cell? ⟨gb237, 1, none⟩ = some (.int .i64 x238001_7) := (blk_cell BK237.out 1).trans rfl
                                      have hcz88_2 : w59.cell? ⟨gb237, 2, none⟩ = some (.int .i64 x238002_15) := (blk_cell BK237.out 2).trans rfl
                                      have hcz88_3 : w59.cell? ⟨gb237, 3, none⟩ = some (.int .i64 x238003_21) := (blk_cell BK237.out 3).trans rfl
                                      have hcz88_4 : w59.cell? ⟨gb237, 4, none⟩ = some (.int .i64 x238004_26) := (blk_cell BK237.out 4).trans rfl
                                      have hcz88_5 : w59.cell? ⟨gb237, 5, none⟩ = some (.string (⟨#[]⟩ : ByteArray)) := (blk_cell BK237.out 5).trans rfl
                                      have hfz88_0 := blk_frozen BK237.out 0
                                      have hfz88_1 := blk_frozen BK237.out 1
                                      have hfz88_2 := blk_frozen BK237.out 2
                                      have hfz88_3 := blk_frozen BK237.out 3
                                      have hfz88_4 := blk_frozen BK237.out 4
                                      have hfz88_5 := blk_frozen BK237.out 5
                                      go_wp2_with (first | ((with_reducible refine gate_callee (f := 9) rfl ?_); refine goesL_ (some 85) rfl rfl Try.func9 (by kernel_rfl) rfl #[.agg #[.int .i64 x3_1, .int .i64 x238001_7, .int .i64 x238002_15, .int .i64 x238003_21, .int .i64 x238004_26, .string (⟨#[]⟩ : ByteArray)]] rfl (by (try simp only [List.map_toArray, List.map_cons, List.map_nil]); first | done | rfl | (simp only [List.length_drop, List.length_take]; rfl)) ?_; (with_reducible refine (sledgeref3_Ins.calls kj26 x3_1 x238001_7 x238002_15 x238003_21 x238004_26 (⟨#[]⟩ : ByteArray) true _ A63.out).mono ?_); rintro e w89 ⟨rfl, hb⟩; refine ⟨_, rfl, ?_⟩; have n0_ := Aside0.mk (blk_below (g := gb234) (o := .cells #[.slice A0_0 l0_0.length c0_0, .slice A0_1 l0_1.length c0_1, .slice A0_2 l0_2.length c0_2, .slice A0_3 l0_3.length c0_3, .slice A0_4 l0_4.length c0_4] 32 (0, 0)) (by (with_reducible repeat (first | refine blk_drewN ?_ _ | refine blk_drew ?_ | refine blk_alloc ?_ _)); refine blk_far ?_ NB234_260.out _; (with_reducible repeat (first | refine blk_drewN ?_ _ | refine blk_drew ?_ | refine blk_alloc ?_ _)); refine blk_far ?_ NB234_260.out _; (with_reducible repeat (first | refine blk_drewN ?_ _ | refine blk_drew ?_ | refine blk_alloc ?_ _)); refine blk_far ?_ NB234_260.out _; (with_reducible repeat (first | refine blk_drewN ?_ _ | refine blk_drew ?_ | refine blk_alloc ?_ _)); refine blk_far ?_ NB234_260.out _; (with_reducible repeat (first | refine blk_drewN ?_ _ | refine blk_drew ?_ | refine blk_alloc ?_ _)); refine blk_far ?_ NB234_260.out _; (with_reducible repeat (first | refine blk_drewN ?_ _ | refine blk_drew ?_ | refine blk_alloc ?_ _)); refine blk_far ?_ NB234_260.out _; (with_reducible repeat (first | refine blk_drewN ?_ _ | refine blk_drew ?_ | refine blk_alloc ?_ _)); exact BK234.out) hb); have n1_ := Aside0.mk (blk_below (g := gb237) (o := .cells #[.int .i64 x3_1, .int .i64 x238001_7, .int .i64 x238002_15, .int .i64 x238003_21, .int .i64 x238004_26, .string (⟨#[]⟩ : ByteArray)] 35 (0, 0)) (by (with_reducible repeat (first | refine blk_drewN ?_ _ | refine blk_drew ?_ | refine blk_alloc ?_ _)); refine blk_far ?_ NB237_260.out _; (with_reducible repeat (first | refine blk_drewN ?_ _ | refine blk_drew ?_ | refine blk_alloc ?_ _)); refine blk_far ?_ NB237_260.out _; (with_reducible repeat (first | refine blk_drewN ?_ _ | refine blk_drew ?_ | refine blk_alloc ?_ _)); refine blk_far ?_ NB237_260.out _; (with_reducible repeat (first | refine blk_drewN ?_ _ | refine blk_drew ?_ | refine blk_alloc ?_ _)); refine blk_far ?_ NB237_260.out _; (with_reducible repeat (first | refine blk_drewN ?_ _ | refine blk_drew ?_ | refine blk_alloc ?_ _)); refine blk_far ?_ NB237_260.out _; (with_reducible repeat (first | refine blk_drewN ?_ _ | refine blk_drew ?_ | refine blk_alloc ?_ _)); refine blk_far ?_ NB237_260.out _; (with_reducible repeat (first | refine blk_drewN ?_ _ | refine blk_drew ?_ | refine blk_alloc ?_ _)); exact BK237.out) hb); have n2_ := Aside0.mk (blk_below (g := gb260) (o := .cells #[.int .i64 t253, .int .i64 t254, .int .i64 t255, .int .i64 t256, .int .i64 t257, .string t258] 35 (0, 0)) (by (with_reducible repeat (first | refine blk_drewN ?_ _ | refine blk_drew ?_ | refine blk_alloc ?_ _)); refine blk_put (cs := #[.int .i64 t253, .int .i64 t254, .int .i64 t255, .int .i64 t256, .int .i64 t257, .string (⟨#[]⟩ : ByteArray)]) ?_ 5 _ rfl; (with_reducible repeat (first | refine blk_drewN ?_ _ | refine blk_drew ?_ | refine blk_alloc ?_ _)); refine blk_put (cs := #[.int .i64 t253, .int .i64 t254, .int .i64 t255, .int .i64 t256, .int .i64 0, .string (⟨#[]⟩ : ByteArray)]) ?_ 4 _ rfl; (with_reducible repeat (first | refine blk_drewN ?_ _ | refine blk_drew ?_ | refine blk_alloc ?_ _)); refine blk_put (cs := #[.int .i64 t253, .int .i64 t254, .int .i64 t255, .int .i64 0, .int .i64 0, .string (⟨#[]⟩ : ByteArray)]) ?_ 3 _ rfl; (with_reducible repeat (first | refine blk_drewN ?_ _ | refine blk_drew ?_ | refine blk_alloc ?_ _)); refine blk_put (cs := #[.int .i64 t253, .int .i64 t254, .int .i64 0, .int .i64 0, .int .i64 0, .string (⟨#[]⟩ : ByteArray)]) ?_ 2 _ rfl; (with_reducible repeat (first | refine blk_drewN ?_ _ | refine blk_drew ?_ | refine blk_alloc ?_ _)); refine blk_put (cs := #[.int .i64 t253, .int .i64 0, .int .i64 0, .int .i64 0, .int .i64 0, .string (⟨#[]⟩ : ByteArray)]) ?_ 1 _ rfl; (with_reducible repeat (first | refine blk_drewN ?_ _ | refine blk_drew ?_ | refine blk_alloc ?_ _)); refine blk_put (cs := #[.int .i64 0, .int .i64 0, .int .i64 0, .int .i64 0, .int .i64 0, .string (⟨#[]⟩ : ByteArray)]) ?_ 0 _ rfl; (with_reducible repeat (first | refine blk_drewN ?_ _ | refine blk_drew ?_ | refine blk_alloc ?_ _)); exact BK260.out) hb); have n3_ := Aside0.mk (below_step (by repeat (first | (with_reducible first | exact HB.out | apply below_alloc | apply pw_below_drewN | apply below_drew1 | refine below_set ?_ GE234.out | refine below_set ?_ GE237.out | refine below_set ?_ GE260.out) | exact HB.out)) hb); clear BK234; clear BK237; clear BK260; clear HB; have BK234 := n0_; have BK237 := n1_; have BK260 := n2_; have HB := n3_; clear n0_ n1_ n2_ n3_; (try clear hb); (try clear hb2); (try clear hk); (try clear hi)) | (go_at_call 11; (with_reducible refine (sledgelaw4_num.calls t252 t262 _ A65.out).mono ?_); rintro e w' ⟨rfl, ⟨nd, rfl⟩⟩) | (go_at_call 11; (with_reducible refine (sledgelaw4_num.calls t259 t263 _ A67.out).mono ?_); rintro e w' ⟨rfl, ⟨nd, rfl⟩⟩))
                                      go_meet
                                      case rel => exact ⟨_, (true), (by first | rfl | (simp; done) | (simp [*]; done) | (congr 1; rw [Bool.eq_iff_iff]; simp; done)), H', ⟨by have := HK1.out; have := HK2.out; have := HJ7.out; have := HJ15.out; have := HJ21.out; have := HJ26.out; first | omega | exact Nat.le_refl _⟩, ⟨by (with_reducible repeat (first | refine blk_drewN ?_ _ | refine blk_drew ?_ | refine blk_alloc ?_ _)); exact BK234.out⟩, ⟨by (with_reducible repeat (first | refine blk_drewN ?_ _ | refine blk_drew ?_ | refine blk_alloc ?_ _)); exact BK237.out⟩, ⟨by (with_reducible repeat (first | refine blk_drewN ?_ _ | refine blk_drew ?_ | refine blk_alloc ?_ _)); exact BK260.out⟩, ⟨by repeat (first | (with_reducible first | exact HB.out | apply below_alloc | apply pw_below_drewN | apply below_drew1 | refine below_set ?_ GE234.out | refine below_set ?_ GE237.out | refine below_set ?_ GE260.out) | exact HB.out)⟩⟩
                                  · rw [if_neg c66] at H
                                    have c66b0 : (t262 == 0) = false := beq_eq_false_iff_ne.mpr c66
                                    have c66b1 : (t262 != 0) = true := bne_iff_ne.mpr c66
                                    (first | rw [c66b0] | (simp only [i64_w, i32_w]; rw [c66b0]) | skip)
                                    have H' := Aside0.mk H
                                    clear H
                                    have hnb90 := NB237_234.out
                                    have hnc90 := NB234_237.out
                                    have hnb91 := NB237_260.out
                                    have hnc91 := NB260_237.out
                                    have hcz92_0 : w59.cell? ⟨gb237, 0, none⟩ = some (.int .i64 x3_1) := (blk_cell BK237.out 0).trans rfl
                                    have hcz92_1 : w59.cell? ⟨gb237, 1, none⟩ = some (.int .i64 x238001_7) := (blk_cell BK237.out 1).trans rfl
                                    have hcz92_2 : w59.cell? ⟨gb237, 2, none⟩ = some (.int .i64 x238002_15) := (blk_cell BK237.out 2).trans rfl
                                    have hcz92_3 : w59.cell? ⟨gb237, 3, none⟩ = some (.int .i64 x238003_21) := (blk_cell BK237.out 3).trans rfl
                                    have hcz92_4 : w59.cell? ⟨gb237, 4, none⟩ = some (.int .i64 x238004_26) := (blk_cell BK237.out 4).trans rfl
                                    have hcz92_5 : w59.cell? ⟨gb237, 5, none⟩ = some (.string (⟨#[]⟩ : ByteArray)) := (blk_cell BK237.out 5).trans rfl
                                    have hfz92_0 := blk_frozen BK237.out 0
                                    have hfz92_1 := blk_frozen BK237.out 1
                                    have hfz92_2 := blk_frozen BK237.out 2
                                    have hfz92_3 := blk_frozen BK237.out 3
                                    have hfz92_4 := blk_frozen BK237.out 4
                                    have hfz92_5 := blk_frozen BK237.out 5
                                    go_wp2_with (first | ((with_reducible refine gate_callee (f := 9) rfl ?_); refine goesL_ (some 85) rfl rfl Try.func9 (by kernel_rfl) rfl #[.agg #[.int .i64 x3_1, .int .i64 x238001_7, .int .i64 x238002_15, .int .i64 x238003_21, .int .i64 x238004_26, .string (⟨#[]⟩ : ByteArray)]] rfl (by (try simp only [List.map_toArray, List.map_cons, List.map_nil]); first | done | rfl | (simp only [List.length_drop, List.length_take]; rfl)) ?_; (with_reducible refine (sledgeref3_Ins.calls kj26 x3_1 x238001_7 x238002_15 x238003_21 x238004_26 (⟨#[]⟩ : ByteArray) true _ A63.out).mono ?_); rintro e w93 ⟨rfl, hb⟩; refine ⟨_, rfl, ?_⟩; have n0_ := Aside0.mk (blk_below (g := gb234) (o := .cells #[.slice A0_0 l0_0.length c0_0, .slice A0_1 l0_1.length c0_1, .slice A0_2 l0_2.length c0_2, .slice A0_3 l0_3.length c0_3, .slice A0_4 l0_4.length c0_4] 32 (0, 0)) (by (with_reducible repeat (first | refine blk_drewN ?_ _ | refine blk_drew ?_ | refine blk_alloc ?_ _)); refine blk_far ?_ NB234_260.out _; (with_reducible repeat (first | refine blk_drewN ?_ _ | refine blk_drew ?_ | refine blk_alloc ?_ _)); refine blk_far ?_ NB234_260.out _; (with_reducible repeat (first | refine blk_drewN ?_ _ | refine blk_drew ?_ | refine blk_alloc ?_ _)); refine blk_far ?_ NB234_260.out _; (with_reducible repeat (first | refine blk_drewN ?_ _ | refine blk_drew ?_ | refine blk_alloc ?_ _)); refine blk_far ?_ NB234_260.out _; (with_reducible repeat (first | refine blk_drewN ?_ _ | refine blk_drew ?_ | refine blk_alloc ?_ _)); refine blk_far ?_ NB234_260.out _; (with_reducible repeat (first | refine blk_drewN ?_ _ | refine blk_drew ?_ | refine blk_alloc ?_ _)); refine blk_far ?_ NB234_260.out _; (with_reducible repeat (first | refine blk_drewN ?_ _ | refine blk_drew ?_ | refine blk_alloc ?_ _)); exact BK234.out) hb); have n1_ := Aside0.mk (blk_below (g := gb237) (o := .cells #[.int .i64 x3_1, .int .i64 x238001_7, .int .i64 x238002_15, .int .i64 x238003_21, .int .i64 x238004_26, .string (⟨#[]⟩ : ByteArray)] 35 (0, 0)) (by (with_reducible repeat (first | refine blk_drewN ?_ _ | refine blk_drew ?_ | refine blk_alloc ?_ _)); refine blk_far ?_ NB237_260.out _; (with_reducible repeat (first | refine blk_drewN ?_ _ | refine blk_drew ?_ | refine blk_alloc ?_ _)); refine blk_far ?_ NB237_260.out _; (with_reducible repeat (first | refine blk_drewN ?_ _ | refine blk_drew ?_ | refine blk_alloc ?_ _)); refine blk_far ?_ NB237_260.out _; (with_reducible repeat (first | refine blk_drewN ?_ _ | refine blk_drew ?_ | refine blk_alloc ?_ _)); refine blk_far ?_ NB237_260.out _; (with_reducible repeat (first | refine blk_drewN ?_ _ | refine blk_drew ?_ | refine blk_alloc ?_ _)); refine blk_far ?_ NB237_260.out _; (with_reducible repeat (first | refine blk_drewN ?_ _ | refine blk_drew ?_ | refine blk_alloc ?_ _)); refine blk_far ?_ NB237_260.out _; (with_reducible repeat (first | refine blk_drewN ?_ _ | refine blk_drew ?_ | refine blk_alloc ?_ _)); exact BK237.out) hb); have n2_ := Aside0.mk (blk_below (g := gb260) (o := .cells #[.int .i64 t253, .int .i64 t254, .int .i64 t255, .int .i64 t256, .int .i64 t257, .string t258] 35 (0, 0)) (by (with_reducible repeat (first | refine blk_drewN ?_ _ | refine blk_drew ?_ | refine blk_alloc ?_ _)); refine blk_put (cs := #[.int .i64 t253, .int .i64 t254, .int .i64 t255, .int .i64 t256, .int .i64 t257, .string (⟨#[]⟩ : ByteArray)]) ?_ 5 _ rfl; (with_reducible repeat (first | refine blk_drewN ?_ _ | refine blk_drew ?_ | refine blk_alloc ?_ _)); refine blk_put (cs := #[.int .i64 t253, .int .i64 t254, .int .i64 t255, .int .i64 t256, .int .i64 0, .string (⟨#[]⟩ : ByteArray)]) ?_ 4 _ rfl; (with_reducible repeat (first | refine blk_drewN ?_ _ | refine blk_drew ?_ | refine blk_alloc ?_ _)); refine blk_put (cs := #[.int .i64 t253, .int .i64 t254, .int .i64 t255, .int .i64 0, .int .i64 0, .string (⟨#[]⟩ : ByteArray)]) ?_ 3 _ rfl; (with_reducible repeat (first | refine blk_drewN ?_ _ | refine blk_drew ?_ | refine blk_alloc ?_ _)); refine blk_put (cs := #[.int .i64 t253, .int .i64 t254, .int .i64 0, .int .i64 0, .int .i64 0, .string (⟨#[]⟩ : ByteArray)]) ?_ 2 _ rfl; (with_reducible repeat (first | refine blk_drewN ?_ _ | refine blk_drew ?_ | refine blk_alloc ?_ _)); refine blk_put (cs := #[.int .i64 t253, .int .i64 0, .int .i64 0, .int .i64 0, .int .i64 0, .string (⟨#[]⟩ : ByteArray)]) ?_ 1 _ rfl; (with_reducible repeat (first | refine blk_drewN ?_ _ | refine blk_drew ?_ | refine blk_alloc ?_ _)); refine blk_put (cs := #[.int .i64 0, .int .i64 0, .int .i64 0, .int .i64 0, .int .i64 0, .string (⟨#[]⟩ : ByteArray)]) ?_ 0 _ rfl; (with_reducible repeat (first | refine blk_drewN ?_ _ | refine blk_drew ?_ | refine blk_alloc ?_ _)); exact BK260.out) hb); have n3_ := Aside0.mk (below_step (by repeat (first | (with_reducible first | exact HB.out | apply below_alloc | apply pw_below_drewN | apply below_drew1 | refine below_set ?_ GE234.out | refine below_set ?_ GE237.out | refine below_set ?_ GE260.out) | exact HB.out)) hb); clear BK234; clear BK237; clear BK260; clear HB; have BK234 := n0_; have BK237 := n1_; have BK260 := n2_; have HB := n3_; clear n0_ n1_ n2_ n3_; (try clear hb); (try clear hb2); (try clear hk); (try clear hi)) | (go_at_call 11; (with_reducible refine (sledgelaw4_num.calls t252 t262 _ A65.out).mono ?_); rintro e w' ⟨rfl, ⟨nd, rfl⟩⟩))
                                    go_meet
                                    case rel => exact ⟨_, (true), (by first | rfl | (simp; done) | (simp [*]; done) | (congr 1; rw [Bool.eq_iff_iff]; simp; done)), H', ⟨by have := HK1.out; have := HK2.out; have := HJ7.out; have := HJ15.out; have := HJ21.out; have := HJ26.out; first | omega | exact Nat.le_refl _⟩, ⟨by (with_reducible repeat (first | refine blk_drewN ?_ _ | refine blk_drew ?_ | refine blk_alloc ?_ _)); exact BK234.out⟩, ⟨by (with_reducible repeat (first | refine blk_drewN ?_ _ | refine blk_drew ?_ | refine blk_alloc ?_ _)); exact BK237.out⟩, ⟨by (with_reducible repeat (first | refine blk_drewN ?_ _ | refine blk_drew ?_ | refine blk_alloc ?_ _)); exact BK260.out⟩, ⟨by repeat (first | (with_reducible first | exact HB.out | apply below_alloc | apply pw_below_drewN | apply below_drew1 | refine below_set ?_ GE234.out | refine below_set ?_ GE237.out | refine below_set ?_ GE260.out) | exact HB.out)⟩⟩
                                · replace c64 := Bool.eq_false_iff.mpr c64
                                  subst c64
                                  have H1 : (sledgelaw4_BitsEach.j6 kj26 x3_1 t236 x5_2 true l0_0 l0_1 l0_2 l0_3 l0_4) = some r := by rw [if_neg (show ¬ (false = true) by decide)] at H; exact H
                                  clear H
                                  have H := H1
                                  clear H1
                                  have H' := Aside0.mk H
                                  clear H
                                  have hnb94 := NB237_234.out
                                  have hnc94 := NB234_237.out
                                  have hnb95 := NB237_260.out
                                  have hnc95 := NB260_237.out
                                  have hcz96_0 : w59.cell? ⟨gb237, 0, none⟩ = some (.int .i64 x3_1) := (blk_cell BK237.out 0).trans rfl
                                  have hcz96_1 : w59.cell? ⟨gb237, 1, none⟩ = some (.int .i64 x238001_7) := (blk_cell BK237.out 1).trans rfl
                                  have hcz96_2 : w59.cell? ⟨gb237, 2, none⟩ = some (.int .i64 x238002_15) := (blk_cell BK237.out 2).trans rfl
                                  have hcz96_3 : w59.cell? ⟨gb237, 3, none⟩ = some (.int .i64 x238003_21) := (blk_cell BK237.out 3).trans rfl
                                  have hcz96_4 : w59.cell? ⟨gb237, 4, none⟩ = some (.int .i64 x238004_26) := (blk_cell BK237.out 4).trans rfl
                                  have hcz96_5 : w59.cell? ⟨gb237, 5, none⟩ = some (.string (⟨#[]⟩ : ByteArray)) := (blk_cell BK237.out 5).trans rfl
                                  have hfz96_0 := blk_frozen BK237.out 0
                                  have hfz96_1 := blk_frozen BK237.out 1
                                  have hfz96_2 := blk_frozen BK237.out 2
                                  have hfz96_3 := blk_frozen BK237.out 3
                                  have hfz96_4 := blk_frozen BK237.out 4
                                  have hfz96_5 := blk_frozen BK237.out 5
                                  go_wp2_with (first | ((with_reducible refine gate_callee (f := 9) rfl ?_); refine goesL_ (some 85) rfl rfl Try.func9 (by kernel_rfl) rfl #[.agg #[.int .i64 x3_1, .int .i64 x238001_7, .int .i64 x238002_15, .int .i64 x238003_21, .int .i64 x238004_26, .string (⟨#[]⟩ : ByteArray)]] rfl (by (try simp only [List.map_toArray, List.map_cons, List.map_nil]); first | done | rfl | (simp only [List.length_drop, List.length_take]; rfl)) ?_; (with_reducible refine (sledgeref3_Ins.calls kj26 x3_1 x238001_7 x238002_15 x238003_21 x238004_26 (⟨#[]⟩ : ByteArray) false _ A63.out).mono ?_); rintro e w97 ⟨rfl, hb⟩; refine ⟨_, rfl, ?_⟩; have n0_ := Aside0.mk (blk_below (g := gb234) (o := .cells #[.slice A0_0 l0_0.length c0_0, .slice A0_1 l0_1.length c0_1, .slice A0_2 l0_2.length c0_2, .slice A0_3 l0_3.length c0_3, .slice A0_4 l0_4.length c0_4] 32 (0, 0)) (by (with_reducible repeat (first | refine blk_drewN ?_ _ | refine blk_drew ?_ | refine blk_alloc ?_ _)); refine blk_far ?_ NB234_260.out _; (with_reducible repeat (first | refine blk_drewN ?_ _ | refine blk_drew ?_ | refine blk_alloc ?_ _)); refine blk_far ?_ NB234_260.out _; (with_reducible repeat (first | refine blk_drewN ?_ _ | refine blk_drew ?_ | refine blk_alloc ?_ _)); refine blk_far ?_ NB234_260.out _; (with_reducible repeat (first | refine blk_drewN ?_ _ | refine blk_drew ?_ | refine blk_alloc ?_ _)); refine blk_far ?_ NB234_260.out _; (with_reducible repeat (first | refine blk_drewN ?_ _ | refine blk_drew ?_ | refine blk_alloc ?_ _)); refine blk_far ?_ NB234_260.out _; (with_reducible repeat (first | refine blk_drewN ?_ _ | refine blk_drew ?_ | refine blk_alloc ?_ _)); refine blk_far ?_ NB234_260.out _; (with_reducible repeat (first | refine blk_drewN ?_ _ | refine blk_drew ?_ | refine blk_alloc ?_ _)); exact BK234.out) hb); have n1_ := Aside0.mk (blk_below (g := gb237) (o := .cells #[.int .i64 x3_1, .int .i64 x238001_7, .int .i64 x238002_15, .int .i64 x238003_21, .int .i64 x238004_26, .string (⟨#[]⟩ : ByteArray)] 35 (0, 0)) (by (with_reducible repeat (first | refine blk_drewN ?_ _ | refine blk_drew ?_ | refine blk_alloc ?_ _)); refine blk_far ?_ NB237_260.out _; (with_reducible repeat (first | refine blk_drewN ?_ _ | refine blk_drew ?_ | refine blk_alloc ?_ _)); refine blk_far ?_ NB237_260.out _; (with_reducible repeat (first | refine blk_drewN ?_ _ | refine blk_drew ?_ | refine blk_alloc ?_ _)); refine blk_far ?_ NB237_260.out _; (with_reducible repeat (first | refine blk_drewN ?_ _ | refine blk_drew ?_ | refine blk_alloc ?_ _)); refine blk_far ?_ NB237_260.out _; (with_reducible repeat (first | refine blk_drewN ?_ _ | refine blk_drew ?_ | refine blk_alloc ?_ _)); refine blk_far ?_ NB237_260.out _; (with_reducible repeat (first | refine blk_drewN ?_ _ | refine blk_drew ?_ | refine blk_alloc ?_ _)); refine blk_far ?_ NB237_260.out _; (with_reducible repeat (first | refine blk_drewN ?_ _ | refine blk_drew ?_ | refine blk_alloc ?_ _)); exact BK237.out) hb); have n2_ := Aside0.mk (blk_below (g := gb260) (o := .cells #[.int .i64 t253, .int .i64 t254, .int .i64 t255, .int .i64 t256, .int .i64 t257, .string t258] 35 (0, 0)) (by (with_reducible repeat (first | refine blk_drewN ?_ _ | refine blk_drew ?_ | refine blk_alloc ?_ _)); refine blk_put (cs := #[.int .i64 t253, .int .i64 t254, .int .i64 t255, .int .i64 t256, .int .i64 t257, .string (⟨#[]⟩ : ByteArray)]) ?_ 5 _ rfl; (with_reducible repeat (first | refine blk_drewN ?_ _ | refine blk_drew ?_ | refine blk_alloc ?_ _)); refine blk_put (cs := #[.int .i64 t253, .int .i64 t254, .int .i64 t255, .int .i64 t256, .int .i64 0, .string (⟨#[]⟩ : ByteArray)]) ?_ 4 _ rfl; (with_reducible repeat (first | refine blk_drewN ?_ _ | refine blk_drew ?_ | refine blk_alloc ?_ _)); refine blk_put (cs := #[.int .i64 t253, .int .i64 t254, .int .i64 t255, .int .i64 0, .int .i64 0, .string (⟨#[]⟩ : ByteArray)]) ?_ 3 _ rfl; (with_reducible repeat (first | refine blk_drewN ?_ _ | refine blk_drew ?_ | refine blk_alloc ?_ _)); refine blk_put (cs := #[.int .i64 t253, .int .i64 t254, .int .i64 0, .int .i64 0, .int .i64 0, .string (⟨#[]⟩ : ByteArray)]) ?_ 2 _ rfl; (with_reducible repeat (first | refine blk_drewN ?_ _ | refine blk_drew ?_ | refine blk_alloc ?_ _)); refine blk_put (cs := #[.int .i64 t253, .int .i64 0, .int .i64 0, .int .i64 0, .int .i64 0, .string (⟨#[]⟩ : ByteArray)]) ?_ 1 _ rfl; (with_reducible repeat (first | refine blk_drewN ?_ _ | refine blk_drew ?_ | refine blk_alloc ?_ _)); refine blk_put (cs := #[.int .i64 0, .int .i64 0, .int .i64 0, .int .i64 0, .int .i64 0, .string (⟨#[]⟩ : ByteArray)]) ?_ 0 _ rfl; (with_reducible repeat (first | refine blk_drewN ?_ _ | refine blk_drew ?_ | refine blk_alloc ?_ _)); exact BK260.out) hb); have n3_ := Aside0.mk (below_step (by repeat (first | (with_reducible first | exact HB.out | apply below_alloc | apply pw_below_drewN | apply below_drew1 | refine below_set ?_ GE234.out | refine below_set ?_ GE237.out | refine below_set ?_ GE260.out) | exact HB.out)) hb); clear BK234; clear BK237; clear BK260; clear HB; have BK234 := n0_; have BK237 := n1_; have BK260 := n2_; have HB := n3_; clear n0_ n1_ n2_ n3_; (try clear hb); (try clear hb2); (try clear hk); (try clear hi)))
                                  go_meet
                                  case rel => exact ⟨_, (true), (by first | rfl | (simp; done) | (simp [*]; done) | (congr 1; rw [Bool.eq_iff_iff]; simp; done)), H', ⟨by have := HK1.out; have := HK2.out; have := HJ7.out; have := HJ15.out; have := HJ21.out; have := HJ26.out; first | omega | exact Nat.le_refl _⟩, ⟨by (with_reducible repeat (first | refine blk_drewN ?_ _ | refine blk_drew ?_ | refine blk_alloc ?_ _)); exact BK234.out⟩, ⟨by (with_reducible repeat (first | refine blk_drewN ?_ _ | refine blk_drew ?_ | refine blk_alloc ?_ _)); exact BK237.out⟩, ⟨by (with_reducible repeat (first | refine blk_drewN ?_ _ | refine blk_drew ?_ | refine blk_alloc ?_ _)); exact BK260.out⟩, ⟨by repeat (first | (with_reducible first | exact HB.out | apply below_alloc | apply pw_below_drewN | apply below_drew1 | refine below_set ?_ GE234.out | refine below_set ?_ GE237.out | refine below_set ?_ GE260.out) | exact HB.out)⟩⟩
                              case rest =>
                                clear HC54
                                try clear c1
                                try clear c2
                                try clear p2
                                try clear q2
                                try clear hx2
                                try clear c3
                                try clear c3b0
                                try clear c4
                                try clear c5
                                try clear c6
                                try clear c6b0
                                try clear p6
                                try clear c7
                                try clear c8
                                try clear c9
                                try clear c10
                                try clear c12
                                try clear c13
                                try clear c15
                                try clear c16
                                try clear c17
                                try clear c18
                                try clear c19
                                try clear c20
                                try clear c23
                                try clear c24
                                try clear p24
                                try clear q24
                                try clear hx24
                                try clear p25
                                try clear q25
                                try clear hx25
                                try clear c28
                                try clear c28b0
                                try clear c30
                                try clear c30b0
                                try clear c30b1
                                try clear c33
                                try clear c33b0
                                try clear c34
                                try clear c34b0
                                try clear c36
                                try clear c37
                                try clear c37b0
                                try clear c41
                                try clear c50
                                try clear c55
                                try clear c60
                                try clear c61
                                try clear c64
                                try clear p64
                                try clear c66
                                try clear c66b0
                                try clear c66b1
                                try clear c68
                                try clear c68b0
                                try clear c68b1
                                try clear c70
                                try clear c70b0
                                try clear c70b1
                                try clear c71
                                try clear c72
                                try clear c77
                                try clear c80
                                try clear c81
                                try clear c86
                                try clear c87
                                try clear c90
                                try clear c91
                                try clear c94
                                try clear c95
                                try clear hcz11_0
                                try clear hcz11_1
                                try clear hcz11_2
                                try clear hcz11_3
                                try clear hcz11_4
                                try clear hcz11_5
                                try clear hcz14_0
                                try clear hcz14_1
                                try clear hcz14_2
                                try clear hcz14_3
                                try clear hcz14_4
                                try clear hcz14_5
                                try clear hcz19_0
                                try clear hcz19_1
                                try clear hcz19_2
                                try clear hcz19_3
                                try clear hcz19_4
                                try clear hcz20_0
                                try clear hcz20_1
                                try clear hcz20_2
                                try clear hcz20_3
                                try clear hcz20_4
                                try clear hcz20_5
                                try clear hcz25_0
                                try clear hcz25_1
                                try clear hcz25_2
                                try clear hcz25_3
                                try clear hcz25_4
                                try clear hcz25_5
                                try clear hcz42_0
                                try clear hcz42_1
                                try clear hcz42_2
                                try clear hcz42_3
                                try clear hcz42_4
                                try clear hcz42_5
                                try clear hcz46_0
                                try clear hcz46_1
                                try clear hcz46_2
                                try clear hcz46_3
                                try clear hcz46_4
                                try clear hcz46_5
                                try clear hcz51_0
                                try clear hcz51_1
                                try clear hcz51_2
                                try clear hcz51_3
                                try clear hcz51_4
                                try clear hcz51_5
                                try clear hcz56_0
                                try clear hcz56_1
                                try clear hcz56_2
                                try clear hcz56_3
                                try clear hcz56_4
                                try clear hcz56_5
                                try clear hcz62_0
                                try clear hcz62_1
                                try clear hcz62_2
                                try clear hcz62_3
                                try clear hcz62_4
                                try clear hcz62_5
                                try clear hcz73_0
                                try clear hcz73_1
                                try clear hcz73_2
                                try clear hcz73_3
                                try clear hcz73_4
                                try clear hcz73_5
                                try clear hcz75_0
                                try clear hcz75_1
                                try clear hcz75_2
                                try clear hcz75_3
                                try clear hcz75_4
                                try clear hcz75_5
                                try clear hcz78_0
                                try clear hcz78_1
                                try clear hcz78_2
                                try clear hcz78_3
                                try clear hcz78_4
                                try clear hcz78_5
                                try clear hcz79_0
                                try clear hcz79_1
                                try clear hcz79_2
                                try clear hcz79_3
                                try clear hcz79_4
                                try clear hcz79_5
                                try clear hcz82_0
                                try clear hcz82_1
                                try clear hcz82_2
                                try clear hcz82_3
                                try clear hcz82_4
                                try clear hcz82_5
                                try clear hcz84_0
                                try clear hcz84_1
                                try clear hcz84_2
                                try clear hcz84_3
                                try clear hcz84_4
                                try clear hcz84_5
                                try clear hcz88_0
                                try clear hcz88_1
                                try clear hcz88_2
                                try clear hcz88_3
                                try clear hcz88_4
                                try clear hcz88_5
                                try clear hcz92_0
                                try clear hcz92_1
                                try clear hcz92_2
                                try clear hcz92_3
                                try clear hcz92_4
                                try clear hcz92_5
                                try clear hcz96_0
                                try clear hcz96_1
                                try clear hcz96_2
                                try clear hcz96_3
                                try clear hcz96_4
                                try clear hcz96_5
                                try clear hfz11_0
                                try clear hfz11_1
                                try clear hfz11_2
                                try clear hfz11_3
                                try clear hfz11_4
                                try clear hfz11_5
                                try clear hfz14_0
                                try clear hfz14_1
                                try clear hfz14_2
                                try clear hfz14_3
                                try clear hfz14_4
                                try clear hfz14_5
                                try clear hfz19_0
                                try clear hfz19_1
                                try clear hfz19_2
                                try clear hfz19_3
                                try clear hfz19_4
                                try clear hfz20_0
                                try clear hfz20_1
                                try clear hfz20_2
                                try clear hfz20_3
                                try clear hfz20_4
                                try clear hfz20_5
                                try clear hfz25_0
                                try clear hfz25_1
                                try clear hfz25_2
                                try clear hfz25_3
                                try clear hfz25_4
                                try clear hfz25_5
                                try clear hfz42_0
                                try clear hfz42_1
                                try clear hfz42_2
                                try clear hfz42_3
                                try clear hfz42_4
                                try clear hfz42_5
                                try clear hfz46_0
                                try clear hfz46_1
                                try clear hfz46_2
                                try clear hfz46_3
                                try clear hfz46_4
                                try clear hfz46_5
                                try clear hfz51_0
                                try clear hfz51_1
                                try clear hfz51_2
                                try clear hfz51_3
                                try clear hfz51_4
                                try clear hfz51_5
                                try clear hfz56_0
                                try clear hfz56_1
                                try clear hfz56_2
                                try clear hfz56_3
                                try clear hfz56_4
                                try clear hfz56_5
                                try clear hfz62_0
                                try clear hfz62_1
                                try clear hfz62_2
                                try clear hfz62_3
                                try clear hfz62_4
                                try clear hfz62_5
                                try clear hfz73_0
                                try clear hfz73_1
                                try clear hfz73_2
                                try clear hfz73_3
                                try clear hfz73_4
                                try clear hfz73_5
                                try clear hfz75_0
                                try clear hfz75_1
                                try clear hfz75_2
                                try clear hfz75_3
                                try clear hfz75_4
                                try clear hfz75_5
                                try clear hfz78_0
                                try clear hfz78_1
                                try clear hfz78_2
                                try clear hfz78_3
                                try clear hfz78_4
                                try clear hfz78_5
                                try clear hfz79_0
                                try clear hfz79_1
                                try clear hfz79_2
                                try clear hfz79_3
                                try clear hfz79_4
                                try clear hfz79_5
                                try clear hfz82_0
                                try clear hfz82_1
                                try clear hfz82_2
                                try clear hfz82_3
                                try clear hfz82_4
                                try clear hfz82_5
                                try clear hfz84_0
                                try clear hfz84_1
                                try clear hfz84_2
                                try clear hfz84_3
                                try clear hfz84_4
                                try clear hfz84_5
                                try clear hfz88_0
                                try clear hfz88_1
                                try clear hfz88_2
                                try clear hfz88_3
                                try clear hfz88_4
                                try clear hfz88_5
                                try clear hfz92_0
                                try clear hfz92_1
                                try clear hfz92_2
                                try clear hfz92_3
                                try clear hfz92_4
                                try clear hfz92_5
                                try clear hfz96_0
                                try clear hfz96_1
                                try clear hfz96_2
                                try clear hfz96_3
                                try clear hfz96_4
                                try clear hfz96_5
                                try clear hx245_0
                                try clear hx250_0
                                try clear p2
                                try clear p24
                                try clear p245
                                try clear p25
                                try clear p250
                                try clear p6
                                try clear q2
                                try clear q24
                                try clear q245
                                try clear q25
                                try clear q250
                                obtain ⟨kq, x107_53, rfl, HA, HJ53, BK234, BK237, BK260, HB⟩ := hcut
                                cases kq with
                                | zero => exact absurd HA.out (by simp [sledgelaw4_BitsEach.j6])
                                | succ kj53 =>
                                  have H := HA.out
                                  clear HA
                                  simp only [sledgelaw4_BitsEach.j6] at H
                                  by_cases c98 : x107_53 = true
                                  · subst c98
                                    have H1 : (some false) = some r := by rw [if_pos rfl] at H; exact H
                                    clear H
                                    have H := H1
                                    clear H1
                                    obtain rfl := Option.some.inj H
                                    go_wp2
                                    go_ret
                                    exact ⟨by first | rfl | (simp [errW_none, errW_some] <;> rfl) | (simp [*, errW_none, errW_some] <;> rfl), by repeat (first | (with_reducible first | exact HB.out | apply below_alloc | apply pw_below_drewN | apply below_drew1 | refine below_set ?_ GE234.out | refine below_set ?_ GE237.out | refine below_set ?_ GE260.out) | exact HB.out)⟩
                                  · replace c98 := Bool.eq_false_iff.mpr c98
                                    subst c98
                                    have H1 : (sledgelaw4_BitsEach.l1 kj53 x3_1 t236 (wrap64 (x5_2 + 1)) l0_0 l0_1 l0_2 l0_3 l0_4) = some r := by rw [if_neg (show ¬ (false = true) by decide)] at H; exact H
                                    clear H
                                    have H := H1
                                    clear H1
                                    have H' := Aside0.mk H
                                    clear H
                                    go_wp2
                                    go_roundg kj53
                                    case measure => have := HK1.out; have := HK2.out; have := HJ7.out; have := HJ15.out; have := HJ21.out; have := HJ26.out; have := HJ53.out; omega
                                    case rel => exact ⟨(wrap64 (x5_2 + 1)), (by first | rfl | (simp; done) | (simp [*]; done) | (congr 1; rw [Bool.eq_iff_iff]; simp; done)), H', ⟨by have := HK1.out; have := HK2.out; have := HJ7.out; have := HJ15.out; have := HJ21.out; have := HJ26.out; have := HJ53.out; omega⟩, ⟨by (with_reducible repeat (first | refine blk_drewN ?_ _ | refine blk_drew ?_ | refine blk_alloc ?_ _)); exact BK234.out⟩, ⟨by repeat (first | (with_reducible first | exact HB.out | apply below_alloc | apply pw_below_drewN | apply below_drew1 | refine below_set ?_ GE234.out | refine below_set ?_ GE237.out | refine below_set ?_ GE260.out) | exact HB.out)⟩⟩
            · rw [if_neg c6] at H
              have c6b0 : decide (x5_2 < 24) = false := decide_eq_false c6
              clear c6
              have H' := Aside0.mk H
              clear H
              go_wp2
              go_roundg k2
              case measure => have := HK1.out; have := HK2.out; omega
              case rel => exact ⟨(wrap64 (x3_1 + 1)), (by first | rfl | (simp; done) | (simp [*]; done) | (congr 1; rw [Bool.eq_iff_iff]; simp; done)), H', ⟨by have := HK1.out; have := HK2.out; omega⟩, ⟨by (with_reducible repeat (first | refine blk_drewN ?_ _ | refine blk_drew ?_ | refine blk_alloc ?_ _)); exact BK234.out⟩, ⟨by repeat (first | (with_reducible first | exact HB.out | apply below_alloc | apply pw_below_drewN | apply below_drew1 | refine below_set ?_ GE234.out) | exact HB.out)⟩⟩
      · rw [if_neg c3] at H
        have c3b0 : decide (x3_1 ≤ 33) = false := decide_eq_false c3
        clear c3
        replace H := Option.bind_eq_some_iff.mp H
        obtain ⟨t235, A990, H⟩ := H
        replace H : (some t235) = some r := H
        have A99 := Aside0.mk A990
        clear A990
        obtain rfl := Option.some.inj H
        go_wp2_with (first | ((with_reducible refine gate_callee (f := 14) rfl ?_); refine goesL_ (some 108) rfl rfl Try.func14 (by kernel_rfl) rfl #[] rfl (by (try simp only [List.map_toArray, List.map_cons, List.map_nil]); first | done | rfl | (simp only [List.length_drop, List.length_take]; rfl)) ?_; (with_reducible refine (sledgelaw4_wakes.calls k1  t235 _ A99.out).mono ?_); rintro e w100 ⟨rfl, hb⟩; refine ⟨_, rfl, ?_⟩; have n0_ := Aside0.mk (blk_below (g := gb234) (o := .cells #[.slice A0_0 l0_0.length c0_0, .slice A0_1 l0_1.length c0_1, .slice A0_2 l0_2.length c0_2, .slice A0_3 l0_3.length c0_3, .slice A0_4 l0_4.length c0_4] 32 (0, 0)) (by (with_reducible repeat (first | refine blk_drewN ?_ _ | refine blk_drew ?_ | refine blk_alloc ?_ _)); exact BK234.out) hb); have n1_ := Aside0.mk (below_step (by repeat (first | (with_reducible first | exact HB.out | apply below_alloc | apply pw_below_drewN | apply below_drew1 | refine below_set ?_ GE234.out) | exact HB.out)) hb); clear BK234; clear HB; have BK234 := n0_; have HB := n1_; clear n0_ n1_; (try clear hb); (try clear hb2); (try clear hk); (try clear hi)))
        go_ret
        exact ⟨by first | rfl | (simp [errW_none, errW_some] <;> rfl) | (simp [*, errW_none, errW_some] <;> rfl), by repeat (first | (with_reducible first | exact HB.out | apply below_alloc | apply pw_below_drewN | apply below_drew1 | refine below_set ?_ GE234.out) | exact HB.out)⟩

end Go.Proofs.Ytfnchdlgkkdegaa.PAll
