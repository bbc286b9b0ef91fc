import Derived.Test.YtibfkkjkahpobaaKq37
import Derived.Test.YtibfkkjkahpobaaKq15
import Derived.Test.YtibfkkjkahpobaaKq19
import Derived.Test.YtibfkkjkahpobaaKq36
set_option linter.unusedVariables false
set_option linter.unusedSimpArgs false
open Go.RowKit Go.Proofs.YtibfkkjkahpobaaW.PrintWords Go.Proofs.YtibfkkjkahpobaaW.PrintLast Go.Proofs.YtibfkkjkahpobaaW.PrintMore
section
namespace Go.Proofs.Ytibfkkjkahpobaa.PDag
attribute [local go_sem] max2_int min2_int max_two min_two max_three min_three max_four min_four   -- for this text's walks alone
def w15_all.l0 : Nat → Int → List Int → List (S24) → Int → Option (Bool)
  | 0, _, _, _, _ => none
  | k + 1, x0, x1, x5, x6 => if x6 < 16 then ((w15_row.f k x6 x0 x1).bind fun t712 => (if (x5.length : Int) = 0 then (none) else (if 0 ≤ (Int.tmod (wrap64 (x6 + x0)) (x5.length : Int)) then (if (Int.tmod (wrap64 (x6 + x0)) (x5.length : Int)) < (x5.length : Int) then ((w15_placed.f k ([] : List ByteArray) t712 ((q24 x5 (Int.tmod (wrap64 (x6 + x0)) (x5.length : Int))).f0) ((q24 x5 (Int.tmod (wrap64 (x6 + x0)) (x5.length : Int))).f1) ((q24 x5 (Int.tmod (wrap64 (x6 + x0)) (x5.length : Int))).f2) ((q24 x5 (Int.tmod (wrap64 (x6 + x0)) (x5.length : Int))).f3) ((q24 x5 (Int.tmod (wrap64 (x6 + x0)) (x5.length : Int))).f4) ((q24 x5 (Int.tmod (wrap64 (x6 + x0)) (x5.length : Int))).f5)).bind fun t716 => (if t716 = true then ((w15_row.f k x6 x0 x1).bind fun t717 => (if 0 ≤ (Int.tmod x6 3) then (if (Int.tmod x6 3) < (x5.length : Int) then ((w15_placed.f k ([] : List ByteArray) t717 ((q24 x5 (Int.tmod x6 3)).f0) ((q24 x5 (Int.tmod x6 3)).f1) ((q24 x5 (Int.tmod x6 3)).f2) ((q24 x5 (Int.tmod x6 3)).f3) ((q24 x5 (Int.tmod x6 3)).f4) ((q24 x5 (Int.tmod x6 3)).f5)).bind fun t721 => (if t721 = true then (w15_all.l0 k x0 x1 x5 (wrap64 (x6 + 1))) else (some false))) else (none)) else (none))) else (some false))) else (none)) else (none)))) else ((w15_wakes.f k).bind fun t711 => (some t711))
def w15_all.f (k : Nat) (a0 : Int) (l1 : List Int) : Option (Bool) := w15_all.l0 k a0 l1 (([(⟨0, 0, 0, 0, 0, (⟨#[]⟩ : ByteArray)⟩ : S24), (⟨33, 0, 0, 0, 0, (⟨#[]⟩ : ByteArray)⟩ : S24), (⟨28, 0, 0, 0, 0, (⟨#[97]⟩ : ByteArray)⟩ : S24), (⟨29, 0, 3, 0, 0, (⟨#[97]⟩ : ByteArray)⟩ : S24), (⟨31, 0, 0, 0, 0, (⟨#[97]⟩ : ByteArray)⟩ : S24), (⟨32, 0, 0, 0, 0, (⟨#[]⟩ : ByteArray)⟩ : S24)] : List (S24))) 0
def w15_all.T5 : Bool × List (List Nat × List Nat) := (true, [([], []), ([], []), ([], []), ([0, 1, 2], [0, 1, 2]), ([], []), ([], []), ([], []), ([5, 6], [5, 6]), ([], []), ([8], [8]), ([7, 9], [7, 9]), ([4, 10], [4, 10]), ([11], [11]), ([3, 12], [3, 12]), ([13, 3], [13]), ([14], [14]), ([15, 14], [15]), ([16], [16]), ([16], [16]), ([16], [16]), ([17, 18, 19, 16, 16], [16, 17, 18, 19]), ([16], [16]), ([16], [16]), ([22, 16], [16, 22]), ([21, 23, 16], [16, 21, 23]), ([24, 16], [16, 24]), ([20, 25, 16], [16, 20, 25]), ([26, 20, 16], [16, 26]), ([27, 16], [16, 27]), ([16, 28], [16, 28])])
def w15_all.B5 : List Nat := [0, 0, 0, 7, 0, 0, 0, 96, 0, 256, 992, 2032, 4080, 8191, 16383, 32767, 65535, 131071, 131071, 131071, 1048575, 131071, 131071, 4325375, 14811135, 31588351, 67108863, 134217727, 268435455, 536870911]
theorem w15_all.tab5 : rtab .any (opsOf Try.f42 5) = w15_all.T5 := by kernel_rfl
theorem w15_all.bits5 : waitsOk w15_all.T5.2 w15_all.B5 = true := by kernel_rfl
set_option maxHeartbeats 8000000 in
set_option maxRecDepth 100000 in
theorem w15_all.calls (k : Nat) (a0 : Int) (A1 : Option Addr) (c1 : Nat) (l1 : List Int) (r : Bool) (w : World) (hr1 : Kd.C (Kd.int .i64) w A1 l1.length l1) (hc1 : l1.length ≤ c1) (h : w15_all.f k a0 l1 = some r) :
    Calls Try.prog 42 #[.int .i64 a0, .slice A1 l1.length c1] w fun e w' => e = .returned (.bool r) ∧ Below w.heap.size w w' := by
 have hu24 := Try.underlying24
 have hu73 := Try.underlying73
 have HR1 := As_.mk hr1
 have HC1 := As_.mk hc1
 clear hr1 hc1
 have HB := As_.mk (Below.refl w.heap.size w)
 have H : (w15_all.l0 k a0 l1 (([(⟨0, 0, 0, 0, 0, (⟨#[]⟩ : ByteArray)⟩ : S24), (⟨33, 0, 0, 0, 0, (⟨#[]⟩ : ByteArray)⟩ : S24), (⟨28, 0, 0, 0, 0, (⟨#[97]⟩ : ByteArray)⟩ : S24), (⟨29, 0, 3, 0, 0, (⟨#[97]⟩ : ByteArray)⟩ : S24), (⟨31, 0, 0, 0, 0, (⟨#[97]⟩ : ByteArray)⟩ : S24), (⟨32, 0, 0, 0, 0, (⟨#[]⟩ : ByteArray)⟩ : S24)] : List (S24))) 0) = some r := h
 clear h
 obtain ⟨y708, hy708⟩ : ∃ y_ : List (S24), y_ = (([(⟨0, 0, 0, 0, 0, (⟨#[]⟩ : ByteArray)⟩ : S24), (⟨33, 0, 0, 0, 0, (⟨#[]⟩ : ByteArray)⟩ : S24), (⟨28, 0, 0, 0, 0, (⟨#[97]⟩ : ByteArray)⟩ : S24), (⟨29, 0, 3, 0, 0, (⟨#[97]⟩ : ByteArray)⟩ : S24), (⟨31, 0, 0, 0, 0, (⟨#[97]⟩ : ByteArray)⟩ : S24), (⟨32, 0, 0, 0, 0, (⟨#[]⟩ : ByteArray)⟩ : S24)] : List (S24))) := ⟨_, rfl⟩
 replace H : (w15_all.l0 k a0 l1 y708 0) = some r := by first | (rw [hy708]; with_reducible exact H) | (have H2_ := (Option.bind_some _ _).symm.trans H; rw [hy708]; with_reducible exact H2_) | (have H2_ := (Option.bind_some _ _).symm.trans H; with_reducible exact H2_) | with_reducible exact H | (rw [hy708]; exact H) | exact H
 have Ny708 := As_.mk hy708
 clear hy708
 have H' := As_.mk H
 clear H
 go_enter Try.func42, Try.ntmps42
 go_wp2_with (first | ((with_reducible refine gate_dst (N := 13) rfl ?_); refine Kd.R_lit k24 _ 24 ?hg (N := 13) ?hd (xs := ([(⟨0, 0, 0, 0, 0, (⟨#[]⟩ : ByteArray)⟩ : S24), (⟨33, 0, 0, 0, 0, (⟨#[]⟩ : ByteArray)⟩ : S24), (⟨28, 0, 0, 0, 0, (⟨#[97]⟩ : ByteArray)⟩ : S24), (⟨29, 0, 3, 0, 0, (⟨#[97]⟩ : ByteArray)⟩ : S24), (⟨31, 0, 0, 0, 0, (⟨#[97]⟩ : ByteArray)⟩ : S24), (⟨32, 0, 0, 0, 0, (⟨#[]⟩ : ByteArray)⟩ : S24)] : List (S24))) (inner := [.int .i64 0, .int .i64 0, .int .i64 0, .int .i64 0, .int .i64 0, .string (⟨#[]⟩ : ByteArray), .int .i64 33, .int .i64 0, .int .i64 0, .int .i64 0, .int .i64 0, .string (⟨#[]⟩ : ByteArray), .int .i64 28, .int .i64 0, .int .i64 0, .int .i64 0, .int .i64 0, .string (⟨#[97]⟩ : ByteArray), .int .i64 29, .int .i64 0, .int .i64 3, .int .i64 0, .int .i64 0, .string (⟨#[97]⟩ : ByteArray), .int .i64 31, .int .i64 0, .int .i64 0, .int .i64 0, .int .i64 0, .string (⟨#[97]⟩ : ByteArray), .int .i64 32, .int .i64 0, .int .i64 0, .int .i64 0, .int .i64 0, .string (⟨#[]⟩ : ByteArray)]) (ok := fun _ => True) (okp := fun _ => True) ?hr ?hp (fun _ hk => hk) trivial (Below.refl _ _) (Nat.le_refl _) (by simp) ?_; (case hd => rfl); (case hg => rfl); (case hr => first | (go_simp; done) | (go_simp; rfl)); (case hp => exact (Reps.c6 (show Kd.M k24 _ _ _ (⟨0, 0, 0, 0, 0, (⟨#[]⟩ : ByteArray)⟩ : S24) [.int .i64 0, .int .i64 0, .int .i64 0, .int .i64 0, .int .i64 0, .string (⟨#[]⟩ : ByteArray)] from (k24_mkM _ _ _ (⟨0, 0, 0, 0, 0, (⟨#[]⟩ : ByteArray)⟩ : S24) )) (Reps.c6 (show Kd.M k24 _ _ _ (⟨33, 0, 0, 0, 0, (⟨#[]⟩ : ByteArray)⟩ : S24) [.int .i64 33, .int .i64 0, .int .i64 0, .int .i64 0, .int .i64 0, .string (⟨#[]⟩ : ByteArray)] from (k24_mkM _ _ _ (⟨33, 0, 0, 0, 0, (⟨#[]⟩ : ByteArray)⟩ : S24) )) (Reps.c6 (show Kd.M k24 _ _ _ (⟨28, 0, 0, 0, 0, (⟨#[97]⟩ : ByteArray)⟩ : S24) [.int .i64 28, .int .i64 0, .int .i64 0, .int .i64 0, .int .i64 0, .string (⟨#[97]⟩ : ByteArray)] from (k24_mkM _ _ _ (⟨28, 0, 0, 0, 0, (⟨#[97]⟩ : ByteArray)⟩ : S24) )) (Reps.c6 (show Kd.M k24 _ _ _ (⟨29, 0, 3, 0, 0, (⟨#[97]⟩ : ByteArray)⟩ : S24) [.int .i64 29, .int .i64 0, .int .i64 3, .int .i64 0, .int .i64 0, .string (⟨#[97]⟩ : ByteArray)] from (k24_mkM _ _ _ (⟨29, 0, 3, 0, 0, (⟨#[97]⟩ : ByteArray)⟩ : S24) )) (Reps.c6 (show Kd.M k24 _ _ _ (⟨31, 0, 0, 0, 0, (⟨#[97]⟩ : ByteArray)⟩ : S24) [.int .i64 31, .int .i64 0, .int .i64 0, .int .i64 0, .int .i64 0, .string (⟨#[97]⟩ : ByteArray)] from (k24_mkM _ _ _ (⟨31, 0, 0, 0, 0, (⟨#[97]⟩ : ByteArray)⟩ : S24) )) (Reps.c6 (show Kd.M k24 _ _ _ (⟨32, 0, 0, 0, 0, (⟨#[]⟩ : ByteArray)⟩ : S24) [.int .i64 32, .int .i64 0, .int .i64 0, .int .i64 0, .int .i64 0, .string (⟨#[]⟩ : ByteArray)] from (k24_mkM _ _ _ (⟨32, 0, 0, 0, 0, (⟨#[]⟩ : ByteArray)⟩ : S24) )) (Reps.none _ _)))))))); intro v709 w3 ho4 hb hg_ hnew_; clear hg_ hnew_; (first | rw [← Ny708.out] at ho4 | (simp only [Int.reduceToNat] at ho4; rw [← Ny708.out] at ho4)); replace HO710 := As_.mk (Kd.R_lower ho4 (bY_ (bl_ HB))); replace HB := As_.mk (bT_ (bl_ HB) hb); clear hb ho4))
 go_loopg [6] k (fun kq v6 w' => ∃ (x6_1 : Int), v6 = .int .i64 x6_1 ∧ As_ (w15_all.l0 kq a0 l1 y708 x6_1 = some r) ∧ As_ (kq ≤ k) ∧ As_ (Kd.R k24 24 w' w.heap.size (fun _ => True) v709 y708) ∧ As_ (Below w.heap.size w w'))
 case atStart => exact ⟨(0), eQ_, H', ⟨Nat.le_refl _⟩, ⟨rR_ HO710⟩, ⟨bl_ HB⟩⟩
 case round =>
  clear H'
  obtain ⟨x6_1, rfl, HA, HK1, HO_5, HB⟩ := hrel
  cases gk with
  | zero => exact absurd HA.out (by simp [w15_all.l0])
  | succ k1 =>
   have H := HA.out
   clear HA
   simp only [w15_all.l0] at H
   by_cases c5 : x6_1 < 16
   ·rw [if_pos c5] at H
    have c5b0 := decide_eq_true c5
    clear c5
    replace H := oB_ H
    obtain ⟨t712, A60, H⟩ := H
    have A6 := As_.mk A60
    clear A60
    by_cases c7 : (y708.length : Int) = 0
    ·rw [if_pos c7] at H
     exact absurd H (by simp)
    rw [if_neg c7] at H
    have c7b0 := bE_ c7
    have c7b1 := bne_iff_ne.mpr c7
    have c7b2 : ¬ (y708 = []) := fun h_ => c7 (by rw [h_]; rfl)
    obtain ⟨ji8, hji8⟩ : ∃ j_ : Int, (Int.tmod (wrap64 (x6_1 + a0)) (y708.length : Int)) = j_ := ⟨_, rfl⟩
    replace H : (if 0 ≤ (ji8) then (if (ji8) < (y708.length : Int) then ((w15_placed.f k1 ([] : List ByteArray) t712 ((q24 y708 (ji8)).f0) ((q24 y708 (ji8)).f1) ((q24 y708 (ji8)).f2) ((q24 y708 (ji8)).f3) ((q24 y708 (ji8)).f4) ((q24 y708 (ji8)).f5)).bind fun t716 => (if t716 = true then ((w15_row.f k1 x6_1 a0 l1).bind fun t717 => (if 0 ≤ (Int.tmod x6_1 3) then (if (Int.tmod x6_1 3) < (y708.length : Int) then ((w15_placed.f k1 ([] : List ByteArray) t717 ((q24 y708 (Int.tmod x6_1 3)).f0) ((q24 y708 (Int.tmod x6_1 3)).f1) ((q24 y708 (Int.tmod x6_1 3)).f2) ((q24 y708 (Int.tmod x6_1 3)).f3) ((q24 y708 (Int.tmod x6_1 3)).f4) ((q24 y708 (Int.tmod x6_1 3)).f5)).bind fun t721 => (if t721 = true then (w15_all.l0 k1 a0 l1 y708 (wrap64 (x6_1 + 1))) else (some false))) else (none)) else (none))) else (some false))) else (none)) else (none)) = some r := by first | (rw [hji8] at H; exact H) | (simp only [hji8] at H ⊢; exact H)
    (try rw [hji8] at A6)
    by_cases c9 : 0 ≤ (ji8)
    ·rw [if_pos c9] at H
     have c9b0 := decide_eq_true c9
     clear c9
     by_cases c10 : (ji8) < (y708.length : Int)
     ·rw [if_pos c10] at H
      have c10b0 := decide_eq_true c10
      clear c10
      replace H := oB_ H
      obtain ⟨t716, A110, H⟩ := H
      have A11 := As_.mk A110
      clear A110
      by_cases c12 : t716 = true
      ·subst c12
       rw [if_pos rfl] at H
       replace H := oB_ H
       obtain ⟨t717, A130, H⟩ := H
       have A13 := As_.mk A130
       clear A130
       obtain ⟨ji14, hji14⟩ : ∃ j_ : Int, (Int.tmod x6_1 3) = j_ := ⟨_, rfl⟩
       replace H : (if 0 ≤ (ji14) then (if (ji14) < (y708.length : Int) then ((w15_placed.f k1 ([] : List ByteArray) t717 ((q24 y708 (ji14)).f0) ((q24 y708 (ji14)).f1) ((q24 y708 (ji14)).f2) ((q24 y708 (ji14)).f3) ((q24 y708 (ji14)).f4) ((q24 y708 (ji14)).f5)).bind fun t721 => (if t721 = true then (w15_all.l0 k1 a0 l1 y708 (wrap64 (x6_1 + 1))) else (some false))) else (none)) else (none)) = some r := by first | (rw [hji14] at H; exact H) | (simp only [hji14] at H ⊢; exact H)
       (try rw [hji14] at A6)
       (try rw [hji14] at A11)
       (try rw [hji14] at A13)
       by_cases c15 : 0 ≤ (ji14)
       ·rw [if_pos c15] at H
        have c15b0 := decide_eq_true c15
        clear c15
        by_cases c16 : (ji14) < (y708.length : Int)
        ·rw [if_pos c16] at H
         have c16b0 := decide_eq_true c16
         clear c16
         replace H := oB_ H
         obtain ⟨t721, A170, H⟩ := H
         have A17 := As_.mk A170
         clear A170
         by_cases c18 : t721 = true
         ·subst c18
          rw [if_pos rfl] at H
          have H' := As_.mk H
          clear H
          try go_wp2
          replace HO_5 := As_.mk (Kd.R_drew HO_5.out)
          replace HB := As_.mk (b1_ HB.out)
          obtain ⟨Ao20, co20, eo20⟩ := Kd.R_slice HO_5.out
          (first | subst eo20 | (injection eo20 with f1_ f2_ f3_; have f4_ := f1_.symm; have f5_ := f3_.symm; clear f1_ f2_ f3_; subst f4_; subst f5_))
          have p715 : 0 ≤ ((ji8) : Int) := oD_
          have q715 : (ji8) < (y708.length : Int) := oD_
          obtain ⟨ad715, e715, hx715_0, hx715_1, hx715_2, hx715_3, hx715_4, hx715_5⟩ := at_T24 (Kd.R_reads' HO_5.out).2.2 (ji8) p715 q715
          cases e715
          replace p715 := eq_true p715
          replace q715 := eq_true q715
          have p720 : 0 ≤ ((ji14) : Int) := oD_
          have q720 : (ji14) < (y708.length : Int) := oD_
          obtain ⟨ad720, e720, hx720_0, hx720_1, hx720_2, hx720_3, hx720_4, hx720_5⟩ := at_T24 (Kd.R_reads' HO_5.out).2.2 (ji14) p720 q720
          obtain rfl : ad715 = ad720 := (by injection e720)
          replace p720 := eq_true p720
          replace q720 := eq_true q720
          refine start_ (n := 30) (S := fun w' => w'.cell? (ad715.add (((ji8)).toNat * 6)) = some (.int .i64 ((q24 y708 (ji8)).f0)) ∧ w'.cell? ⟨(ad715.add (((ji8)).toNat * 6)).block, (ad715.add (((ji8)).toNat * 6)).off + 1, none⟩ = some (.int .i64 ((q24 y708 (ji8)).f1)) ∧ w'.cell? ⟨(ad715.add (((ji8)).toNat * 6)).block, (ad715.add (((ji8)).toNat * 6)).off + 2, none⟩ = some (.int .i64 ((q24 y708 (ji8)).f2)) ∧ w'.cell? ⟨(ad715.add (((ji8)).toNat * 6)).block, (ad715.add (((ji8)).toNat * 6)).off + 3, none⟩ = some (.int .i64 ((q24 y708 (ji8)).f3)) ∧ w'.cell? ⟨(ad715.add (((ji8)).toNat * 6)).block, (ad715.add (((ji8)).toNat * 6)).off + 4, none⟩ = some (.int .i64 ((q24 y708 (ji8)).f4)) ∧ w'.cell? ⟨(ad715.add (((ji8)).toNat * 6)).block, (ad715.add (((ji8)).toNat * 6)).off + 5, none⟩ = some (.string ((q24 y708 (ji8)).f5)) ∧ w'.cell? (ad715.add (((ji14)).toNat * 6)) = some (.int .i64 ((q24 y708 (ji14)).f0)) ∧ w'.cell? ⟨(ad715.add (((ji14)).toNat * 6)).block, (ad715.add (((ji14)).toNat * 6)).off + 1, none⟩ = some (.int .i64 ((q24 y708 (ji14)).f1)) ∧ w'.cell? ⟨(ad715.add (((ji14)).toNat * 6)).block, (ad715.add (((ji14)).toNat * 6)).off + 2, none⟩ = some (.int .i64 ((q24 y708 (ji14)).f2)) ∧ w'.cell? ⟨(ad715.add (((ji14)).toNat * 6)).block, (ad715.add (((ji14)).toNat * 6)).off + 3, none⟩ = some (.int .i64 ((q24 y708 (ji14)).f3)) ∧ w'.cell? ⟨(ad715.add (((ji14)).toNat * 6)).block, (ad715.add (((ji14)).toNat * 6)).off + 4, none⟩ = some (.int .i64 ((q24 y708 (ji14)).f4)) ∧ w'.cell? ⟨(ad715.add (((ji14)).toNat * 6)).block, (ad715.add (((ji14)).toNat * 6)).off + 5, none⟩ = some (.string ((q24 y708 (ji14)).f5))) (ds := []) (bm 30 0) (by kernel_rfl) rfl (by kernel_rfl) ⟨hx715_0, hx715_1, hx715_2, hx715_3, hx715_4, hx715_5, hx720_0, hx720_1, hx720_2, hx720_3, hx720_4, hx720_5⟩ (fun hHeld => ?_); refine with_tabW w15_all.tab5 w15_all.bits5 (fun HT_ HW_ => ?_)
          generalize wr.drew = w19 at HO_5 HB hx715_0 hx715_1 hx715_2 hx715_3 hx715_4 hx715_5 hx720_0 hx720_1 hx720_2 hx720_3 hx720_4 hx720_5 hHeld ⊢
          refine seq_ (k := 18) [(0, some 18, false), (1, some 19, false), (2, some 20, false), (4, some 22, false), (5, some 23, false), (6, some 24, false), (7, some 25, false), (8, some 26, false), (9, some 27, false), (10, some 28, false), (11, some 29, false), (12, some 30, true)] (bm 30 8183) rfl (seq_of HT_.out HW_.out (by kernel_rfl)) (fun _ _ _ _ _ h => h) hHeld ?_
          repeat (first | (refine SeqOn.pure (v := ?_) (a' := ?_) rfl rfl (Or.inl ⟨by kernel_rfl, ?_⟩) ?_ ?_; rotate_left 2; (focus (intro w'; go_simp; with_reducible rfl)); (focus (first | (simp only [Act.put, List.setIfInBounds_toArray, List.set_cons_zero, List.set_cons_succ, i64_w, i32_w]; rfl) | rfl))) | (refine SeqOn.take (v := ?_) (a' := ?_) rfl rfl (Or.inl ⟨by kernel_rfl, ?_⟩) ?_ ?_; rotate_left 2; (focus (rintro w' ⟨s0, s1, s2, s3, s4, s5, s6, s7, s8, s9, s10, s11⟩; go_simp; with_reducible rfl)); (focus (first | (simp only [Act.put, List.setIfInBounds_toArray, List.set_cons_zero, List.set_cons_succ, i64_w, i32_w]; rfl) | rfl))))
          refine SeqOn.nil ?_
          refine one_ (i := 3) (N := some 21) (bm 30 8191) rfl rfl (one_of HT_.out (by kernel_rfl)) (by decide) (fun K hK => ?_)
          refine goes_ Try.func45 (by kernel_rfl) rfl #[.int .i64 x6_1, .int .i64 a0, .slice A1 l1.length c1] (by rfl) rfl rfl (by (try simp only [List.map_toArray, List.map_cons, List.map_nil]); first | done | rfl) ?_
          with_reducible refine (w15_row.calls k1 x6_1 a0 _ _ l1 t712 _ ?side1 ?side2 A6.out).mono ?_
          (case side1 => exact rC_ (Kd.C_below HR1.out HB.out))
          (case side2 => exact HC1.out)
          rintro e w21 ⟨v713, rfl, ho0, hb⟩
          have HS0_ := (hb.cell (World.block_lt_of_cell? _ _ (hHeld.1))).trans (hHeld.1)
          have HS1_ := (hb.cell (World.block_lt_of_cell? _ _ (hHeld.2.1))).trans (hHeld.2.1)
          have HS2_ := (hb.cell (World.block_lt_of_cell? _ _ (hHeld.2.2.1))).trans (hHeld.2.2.1)
          have HS3_ := (hb.cell (World.block_lt_of_cell? _ _ (hHeld.2.2.2.1))).trans (hHeld.2.2.2.1)
          have HS4_ := (hb.cell (World.block_lt_of_cell? _ _ (hHeld.2.2.2.2.1))).trans (hHeld.2.2.2.2.1)
          have HS5_ := (hb.cell (World.block_lt_of_cell? _ _ (hHeld.2.2.2.2.2.1))).trans (hHeld.2.2.2.2.2.1)
          have HS6_ := (hb.cell (World.block_lt_of_cell? _ _ (hHeld.2.2.2.2.2.2.1))).trans (hHeld.2.2.2.2.2.2.1)
          have HS7_ := (hb.cell (World.block_lt_of_cell? _ _ (hHeld.2.2.2.2.2.2.2.1))).trans (hHeld.2.2.2.2.2.2.2.1)
          have HS8_ := (hb.cell (World.block_lt_of_cell? _ _ (hHeld.2.2.2.2.2.2.2.2.1))).trans (hHeld.2.2.2.2.2.2.2.2.1)
          have HS9_ := (hb.cell (World.block_lt_of_cell? _ _ (hHeld.2.2.2.2.2.2.2.2.2.1))).trans (hHeld.2.2.2.2.2.2.2.2.2.1)
          have HS10_ := (hb.cell (World.block_lt_of_cell? _ _ (hHeld.2.2.2.2.2.2.2.2.2.2.1))).trans (hHeld.2.2.2.2.2.2.2.2.2.2.1)
          have HS11_ := (hb.cell (World.block_lt_of_cell? _ _ (hHeld.2.2.2.2.2.2.2.2.2.2.2))).trans (hHeld.2.2.2.2.2.2.2.2.2.2.2)
          refine ⟨_, rfl, ?_⟩
          replace HO714 := As_.mk (Kd.R_lower (Kd.R_new' ho0 (Kd.R_lt (rR_ HO_5))) (bY_ (bl_ HB)))
          replace HO_5 := As_.mk (Kd.R_elder' (rR_ HO_5) (Kd.R_base ho0) hb)
          replace HB := As_.mk (bT_ (bl_ HB) hb)
          obtain ⟨Ao22, co22, eo22⟩ := Kd.R_slice HO714.out
          (first | subst eo22 | (injection eo22 with f1_ f2_ f3_; have f4_ := f1_.symm; have f5_ := f3_.symm; clear f1_ f2_ f3_; subst f4_; subst f5_))
          refine hK.out _ _ ⟨HS0_, HS1_, HS2_, HS3_, HS4_, HS5_, HS6_, HS7_, HS8_, HS9_, HS10_, HS11_⟩ (fun hHeld => ?_)
          clear hK K
          refine norm_ (a' := ?_) ?_ ?_
          rotate_left
          ·show Act.put _ (some 21) _ = _
           simp only [Act.put, List.setIfInBounds_toArray, List.set_cons_zero, List.set_cons_succ, i64_w, i32_w]
           rfl
          refine pure_ (i := 13) (N := some 31) (v := ?_) (a' := ?_) (bm 30 16383) rfl rfl (any_of HT_.out (by kernel_rfl)) (fun _ _ _ h => h) (Or.inl ⟨by rfl, ?_⟩) ?_ ?_
          rotate_left
          ·intro w'
           go_simp
           with_reducible rfl
          rotate_left
          ·simp only [Act.put, List.setIfInBounds_toArray, List.set_cons_zero, List.set_cons_succ, i64_w, i32_w]
           rfl
          refine one_ (i := 14) (N := some 32) (bm 30 32767) rfl rfl (one_of HT_.out (by kernel_rfl)) (by decide) (fun K hK => ?_)
          refine goes_ Try.func44 (by kernel_rfl) rfl #[.agg #[.slice none 0 0, .slice Ao22 t712.length co22, .int .i64 ((q24 y708 (ji8)).f0), .int .i64 ((q24 y708 (ji8)).f1), .int .i64 ((q24 y708 (ji8)).f2), .int .i64 ((q24 y708 (ji8)).f3), .int .i64 ((q24 y708 (ji8)).f4), .string ((q24 y708 (ji8)).f5)]] (by rfl) rfl rfl (by (try simp only [List.map_toArray, List.map_cons, List.map_nil]); first | done | (simp only [hji8]; rfl) | rfl | (simp only [List.length_drop, List.length_take]; rfl)) ?_
          refine (w15_placed.calls k1 _ _ ([] : List ByteArray) _ _ t712 ((q24 y708 (ji8)).f0) ((q24 y708 (ji8)).f1) ((q24 y708 (ji8)).f2) ((q24 y708 (ji8)).f3) ((q24 y708 (ji8)).f4) ((q24 y708 (ji8)).f5) true _ ?side1 ?side2 ?side3 ?side4 A11.out).mono ?_
          (case side1 => exact Kd.C_nil _ _)
          (case side2 => exact Nat.le_refl _)
          (case side3 => exact rC_ (Kd.R_reads' HO714.out).2.2)
          (case side4 => exact (Kd.R_reads' HO714.out).2.1)
          rintro e w23 ⟨rfl, hb⟩
          have HS0_ := (hb.cell (World.block_lt_of_cell? _ _ (hHeld.1))).trans (hHeld.1)
          have HS1_ := (hb.cell (World.block_lt_of_cell? _ _ (hHeld.2.1))).trans (hHeld.2.1)
          have HS2_ := (hb.cell (World.block_lt_of_cell? _ _ (hHeld.2.2.1))).trans (hHeld.2.2.1)
          have HS3_ := (hb.cell (World.block_lt_of_cell? _ _ (hHeld.2.2.2.1))).trans (hHeld.2.2.2.1)
          have HS4_ := (hb.cell (World.block_lt_of_cell? _ _ (hHeld.2.2.2.2.1))).trans (hHeld.2.2.2.2.1)
          have HS5_ := (hb.cell (World.block_lt_of_cell? _ _ (hHeld.2.2.2.2.2.1))).trans (hHeld.2.2.2.2.2.1)
          have HS6_ := (hb.cell (World.block_lt_of_cell? _ _ (hHeld.2.2.2.2.2.2.1))).trans (hHeld.2.2.2.2.2.2.1)
          have HS7_ := (hb.cell (World.block_lt_of_cell? _ _ (hHeld.2.2.2.2.2.2.2.1))).trans (hHeld.2.2.2.2.2.2.2.1)
          have HS8_ := (hb.cell (World.block_lt_of_cell? _ _ (hHeld.2.2.2.2.2.2.2.2.1))).trans (hHeld.2.2.2.2.2.2.2.2.1)
          have HS9_ := (hb.cell (World.block_lt_of_cell? _ _ (hHeld.2.2.2.2.2.2.2.2.2.1))).trans (hHeld.2.2.2.2.2.2.2.2.2.1)
          have HS10_ := (hb.cell (World.block_lt_of_cell? _ _ (hHeld.2.2.2.2.2.2.2.2.2.2.1))).trans (hHeld.2.2.2.2.2.2.2.2.2.2.1)
          have HS11_ := (hb.cell (World.block_lt_of_cell? _ _ (hHeld.2.2.2.2.2.2.2.2.2.2.2))).trans (hHeld.2.2.2.2.2.2.2.2.2.2.2)
          refine ⟨_, rfl, ?_⟩
          replace HO_5 := As_.mk (Kd.R_below (rR_ HO_5) hb)
          replace HO714 := As_.mk (Kd.R_below (rR_ HO714) hb)
          replace HB := As_.mk (bT_ (bl_ HB) hb)
          refine hK.out _ _ ⟨HS0_, HS1_, HS2_, HS3_, HS4_, HS5_, HS6_, HS7_, HS8_, HS9_, HS10_, HS11_⟩ (fun hHeld => ?_)
          clear hK K
          refine norm_ (a' := ?_) ?_ ?_
          rotate_left
          ·show Act.put _ (some 32) _ = _
           simp only [Act.put, List.setIfInBounds_toArray, List.set_cons_zero, List.set_cons_succ, i64_w, i32_w]
           rfl
          refine seq_ (k := 5) [(15, some 33, false), (16, some 34, false), (17, some 35, false), (18, some 36, false), (19, some 37, false), (21, some 39, false), (22, some 40, false), (23, some 41, false), (24, some 42, false), (25, some 43, true)] (bm 30 66060287) rfl (seq_of HT_.out HW_.out (by kernel_rfl)) (fun _ _ _ _ _ h => h) hHeld ?_
          repeat (first | (refine SeqOn.pure (v := ?_) (a' := ?_) rfl rfl (Or.inl ⟨by kernel_rfl, ?_⟩) ?_ ?_; rotate_left 2; (focus (intro w'; go_simp; with_reducible rfl)); (focus (first | (simp only [Act.put, List.setIfInBounds_toArray, List.set_cons_zero, List.set_cons_succ, i64_w, i32_w]; rfl) | rfl))) | (refine SeqOn.take (v := ?_) (a' := ?_) rfl rfl (Or.inl ⟨by kernel_rfl, ?_⟩) ?_ ?_; rotate_left 2; (focus (rintro w' ⟨s0, s1, s2, s3, s4, s5, s6, s7, s8, s9, s10, s11⟩; go_simp; with_reducible rfl)); (focus (first | (simp only [Act.put, List.setIfInBounds_toArray, List.set_cons_zero, List.set_cons_succ, i64_w, i32_w]; rfl) | rfl))))
          refine SeqOn.nil ?_
          refine one_ (i := 20) (N := some 38) (bm 30 67108863) rfl rfl (one_of HT_.out (by kernel_rfl)) (by decide) (fun K hK => ?_)
          refine goes_ Try.func45 (by kernel_rfl) rfl #[.int .i64 x6_1, .int .i64 a0, .slice A1 l1.length c1] (by rfl) rfl rfl (by (try simp only [List.map_toArray, List.map_cons, List.map_nil]); first | done | rfl) ?_
          with_reducible refine (w15_row.calls k1 x6_1 a0 _ _ l1 t717 _ ?side1 ?side2 A13.out).mono ?_
          (case side1 => exact rC_ (Kd.C_below HR1.out HB.out))
          (case side2 => exact HC1.out)
          rintro e w24 ⟨v718, rfl, ho0, hb⟩
          have HS0_ := (hb.cell (World.block_lt_of_cell? _ _ (hHeld.1))).trans (hHeld.1)
          have HS1_ := (hb.cell (World.block_lt_of_cell? _ _ (hHeld.2.1))).trans (hHeld.2.1)
          have HS2_ := (hb.cell (World.block_lt_of_cell? _ _ (hHeld.2.2.1))).trans (hHeld.2.2.1)
          have HS3_ := (hb.cell (World.block_lt_of_cell? _ _ (hHeld.2.2.2.1))).trans (hHeld.2.2.2.1)
          have HS4_ := (hb.cell (World.block_lt_of_cell? _ _ (hHeld.2.2.2.2.1))).trans (hHeld.2.2.2.2.1)
          have HS5_ := (hb.cell (World.block_lt_of_cell? _ _ (hHeld.2.2.2.2.2.1))).trans (hHeld.2.2.2.2.2.1)
          have HS6_ := (hb.cell (World.block_lt_of_cell? _ _ (hHeld.2.2.2.2.2.2.1))).trans (hHeld.2.2.2.2.2.2.1)
          have HS7_ := (hb.cell (World.block_lt_of_cell? _ _ (hHeld.2.2.2.2.2.2.2.1))).trans (hHeld.2.2.2.2.2.2.2.1)
          have HS8_ := (hb.cell (World.block_lt_of_cell? _ _ (hHeld.2.2.2.2.2.2.2.2.1))).trans (hHeld.2.2.2.2.2.2.2.2.1)
          have HS9_ := (hb.cell (World.block_lt_of_cell? _ _ (hHeld.2.2.2.2.2.2.2.2.2.1))).trans (hHeld.2.2.2.2.2.2.2.2.2.1)
          have HS10_ := (hb.cell (World.block_lt_of_cell? _ _ (hHeld.2.2.2.2.2.2.2.2.2.2.1))).trans (hHeld.2.2.2.2.2.2.2.2.2.2.1)
          have HS11_ := (hb.cell (World.block_lt_of_cell? _ _ (hHeld.2.2.2.2.2.2.2.2.2.2.2))).trans (hHeld.2.2.2.2.2.2.2.2.2.2.2)
          refine ⟨_, rfl, ?_⟩
          replace HO719 := As_.mk (Kd.R_lower (Kd.R_new' (Kd.R_new' ho0 (Kd.R_lt (rR_ HO_5))) (Kd.R_lt (rR_ HO714))) (bY_ (bl_ HB)))
          replace HO_5 := As_.mk (Kd.R_elder' (rR_ HO_5) (Kd.R_base ho0) hb)
          replace HO714 := As_.mk (Kd.R_elder' (rR_ HO714) (Kd.R_base ho0) hb)
          replace HB := As_.mk (bT_ (bl_ HB) hb)
          obtain ⟨Ao25, co25, eo25⟩ := Kd.R_slice HO719.out
          (first | subst eo25 | (injection eo25 with f1_ f2_ f3_; have f4_ := f1_.symm; have f5_ := f3_.symm; clear f1_ f2_ f3_; subst f4_; subst f5_))
          refine hK.out _ _ ⟨HS0_, HS1_, HS2_, HS3_, HS4_, HS5_, HS6_, HS7_, HS8_, HS9_, HS10_, HS11_⟩ (fun hHeld => ?_)
          clear hK K
          refine norm_ (a' := ?_) ?_ ?_
          rotate_left
          ·show Act.put _ (some 38) _ = _
           simp only [Act.put, List.setIfInBounds_toArray, List.set_cons_zero, List.set_cons_succ, i64_w, i32_w]
           rfl
          refine pure_ (i := 26) (N := some 44) (v := ?_) (a' := ?_) (bm 30 134217727) rfl rfl (any_of HT_.out (by kernel_rfl)) (fun _ _ _ h => h) (Or.inl ⟨by rfl, ?_⟩) ?_ ?_
          rotate_left
          ·intro w'
           go_simp
           with_reducible rfl
          rotate_left
          ·simp only [Act.put, List.setIfInBounds_toArray, List.set_cons_zero, List.set_cons_succ, i64_w, i32_w]
           rfl
          refine one_ (i := 27) (N := some 45) (bm 30 268435455) rfl rfl (one_of HT_.out (by kernel_rfl)) (by decide) (fun K hK => ?_)
          refine goes_ Try.func44 (by kernel_rfl) rfl #[.agg #[.slice none 0 0, .slice Ao25 t717.length co25, .int .i64 ((q24 y708 (ji14)).f0), .int .i64 ((q24 y708 (ji14)).f1), .int .i64 ((q24 y708 (ji14)).f2), .int .i64 ((q24 y708 (ji14)).f3), .int .i64 ((q24 y708 (ji14)).f4), .string ((q24 y708 (ji14)).f5)]] (by rfl) rfl rfl (by (try simp only [List.map_toArray, List.map_cons, List.map_nil]); first | done | (simp only [hji14]; rfl) | rfl | (simp only [List.length_drop, List.length_take]; rfl)) ?_
          refine (w15_placed.calls k1 _ _ ([] : List ByteArray) _ _ t717 ((q24 y708 (ji14)).f0) ((q24 y708 (ji14)).f1) ((q24 y708 (ji14)).f2) ((q24 y708 (ji14)).f3) ((q24 y708 (ji14)).f4) ((q24 y708 (ji14)).f5) true _ ?side1 ?side2 ?side3 ?side4 A17.out).mono ?_
          (case side1 => exact Kd.C_nil _ _)
          (case side2 => exact Nat.le_refl _)
          (case side3 => exact rC_ (Kd.R_reads' HO719.out).2.2)
          (case side4 => exact (Kd.R_reads' HO719.out).2.1)
          rintro e w26 ⟨rfl, hb⟩
          have HS0_ := (hb.cell (World.block_lt_of_cell? _ _ (hHeld.1))).trans (hHeld.1)
          have HS1_ := (hb.cell (World.block_lt_of_cell? _ _ (hHeld.2.1))).trans (hHeld.2.1)
          have HS2_ := (hb.cell (World.block_lt_of_cell? _ _ (hHeld.2.2.1))).trans (hHeld.2.2.1)
          have HS3_ := (hb.cell (World.block_lt_of_cell? _ _ (hHeld.2.2.2.1))).trans (hHeld.2.2.2.1)
          have HS4_ := (hb.cell (World.block_lt_of_cell? _ _ (hHeld.2.2.2.2.1))).trans (hHeld.2.2.2.2.1)
          have HS5_ := (hb.cell (World.block_lt_of_cell? _ _ (hHeld.2.2.2.2.2.1))).trans (hHeld.2.2.2.2.2.1)
          have HS6_ := (hb.cell (World.block_lt_of_cell? _ _ (hHeld.2.2.2.2.2.2.1))).trans (hHeld.2.2.2.2.2.2.1)
          have HS7_ := (hb.cell (World.block_lt_of_cell? _ _ (hHeld.2.2.2.2.2.2.2.1))).trans (hHeld.2.2.2.2.2.2.2.1)
          have HS8_ := (hb.cell (World.block_lt_of_cell? _ _ (hHeld.2.2.2.2.2.2.2.2.1))).trans (hHeld.2.2.2.2.2.2.2.2.1)
          have HS9_ := (hb.cell (World.block_lt_of_cell? _ _ (hHeld.2.2.2.2.2.2.2.2.2.1))).trans (hHeld.2.2.2.2.2.2.2.2.2.1)
          have HS10_ := (hb.cell (World.block_lt_of_cell? _ _ (hHeld.2.2.2.2.2.2.2.2.2.2.1))).trans (hHeld.2.2.2.2.2.2.2.2.2.2.1)
          have HS11_ := (hb.cell (World.block_lt_of_cell? _ _ (hHeld.2.2.2.2.2.2.2.2.2.2.2))).trans (hHeld.2.2.2.2.2.2.2.2.2.2.2)
          refine ⟨_, rfl, ?_⟩
          replace HO_5 := As_.mk (Kd.R_below (rR_ HO_5) hb)
          replace HO714 := As_.mk (Kd.R_below (rR_ HO714) hb)
          replace HO719 := As_.mk (Kd.R_below (rR_ HO719) hb)
          replace HB := As_.mk (bT_ (bl_ HB) hb)
          refine hK.out _ _ ⟨HS0_, HS1_, HS2_, HS3_, HS4_, HS5_, HS6_, HS7_, HS8_, HS9_, HS10_, HS11_⟩ (fun hHeld => ?_)
          clear hK K
          refine norm_ (a' := ?_) ?_ ?_
          rotate_left
          ·show Act.put _ (some 45) _ = _
           simp only [Act.put, List.setIfInBounds_toArray, List.set_cons_zero, List.set_cons_succ, i64_w, i32_w]
           rfl
          refine seq_ (k := 0) [(28, some 46, false), (29, some 47, false)] (bm 30 1073741823) rfl (seq_of HT_.out HW_.out (by kernel_rfl)) (fun _ _ _ _ _ h => h) hHeld ?_
          repeat (first | (refine SeqOn.pure (v := ?_) (a' := ?_) rfl rfl (Or.inl ⟨by kernel_rfl, ?_⟩) ?_ ?_; rotate_left 2; (focus (intro w'; go_simp; with_reducible rfl)); (focus (first | (simp only [Act.put, List.setIfInBounds_toArray, List.set_cons_zero, List.set_cons_succ, i64_w, i32_w]; rfl) | rfl))))
          refine SeqOn.nil ?_
          refine done_ (done_of HT_.out (by kernel_rfl)) ?_
          try go_wp2
          go_roundg k1
          case measure => have := HK1.out; omega
          case rel => exact ⟨(wrap64 (x6_1 + 1)), eQ_, H', ⟨by have := HK1.out; omega⟩, ⟨by (with_reducible repeat (first | apply Kd.R_alloc | apply Kd.R_drewN | apply Kd.R_drew)); exact Kd.R_mono HO_5.out (fun _ hk => trivial)⟩, ⟨bl_ HB⟩⟩
         exact absurd (placed_true A17.out) c18
        rw [if_neg c16] at H
        exact absurd H (by simp)
       rw [if_neg c15] at H
       exact absurd H (by simp)
      exact absurd (placed_true A11.out) c12
     rw [if_neg c10] at H
     exact absurd H (by simp)
    rw [if_neg c9] at H
    exact absurd H (by simp)
   rw [if_neg c5] at H
   have c5b0 := decide_eq_false c5
   clear c5
   replace H := oB_ H
   obtain ⟨t711, A400, H⟩ := H
   have A40 := As_.mk A400
   clear A400
   obtain rfl := oI_ H
   go_wp2_with (first | ((with_reducible refine gC_ (f := 46) rfl ?_); refine gL_ (some 48) Try.func46 #[] rfl ?_; (with_reducible refine (w15_wakes.calls k1  t711 _ A40.out).mono ?_); rintro e w41 ⟨rfl, hb⟩; refine ⟨_, rfl, ?_⟩; replace HO_5 := As_.mk (Kd.R_below (rR_ HO_5) hb); replace HB := As_.mk (bT_ (bl_ HB) hb)))
   go_ret
   exact ⟨by first | rfl | (simp [eN_, eS_] <;> rfl) | (simp [*, eN_, eS_] <;> rfl), bl_ HB⟩
end Go.Proofs.Ytibfkkjkahpobaa.PDag
end
section
namespace Go.Proofs.Ytibfkkjkahpobaa.PDag
set_option maxRecDepth 100000
attribute [local go_sem] Oper.semAt_some
def ends6 : List S24 := [⟨0, 0, 0, 0, 0, ⟨#[]⟩⟩, ⟨33, 0, 0, 0, 0, ⟨#[]⟩⟩, ⟨28, 0, 0, 0, 0, ⟨#[97]⟩⟩, ⟨29, 0, 3, 0, 0, ⟨#[97]⟩⟩, ⟨31, 0, 0, 0, 0, ⟨#[97]⟩⟩, ⟨32, 0, 0, 0, 0, ⟨#[]⟩⟩]
def okAt (step : Int) (ops : List Int) (n : Nat) : Bool :=
  match w15_row.f 200 (n : Int) step ops with
  | some r => decide (0 ≤ Int.tmod (wrap64 ((n : Int) + step)) (ends6.length : Int)) && (decide (Int.tmod (wrap64 ((n : Int) + step)) (ends6.length : Int) < (ends6.length : Int)) && (decide (0 ≤ Int.tmod (n : Int) 3) && (decide (Int.tmod (n : Int) 3 < (ends6.length : Int)) &&
      (mayBlk r (q24 ends6 (Int.tmod (wrap64 ((n : Int) + step)) (ends6.length : Int))) && mayBlk r (q24 ends6 (Int.tmod (n : Int) 3))))))
  | none => false
def okUp (step : Int) (ops : List Int) : Nat → Bool
  | 0 => true
  | n + 1 => okUp step ops n && okAt step ops n
theorem okUp_at (step : Int) (ops : List Int) : ∀ (m n : Nat), okUp step ops m = true → n < m → okAt step ops n = true
  | m + 1, n, h, hn => by
    rw [okUp, Bool.and_eq_true] at h
    by_cases e : n = m
    · subst e; exact h.2
    · exact okUp_at step ops m n h.1 (by omega)
theorem all_round (step : Int) (ops : List Int) (n : Nat) (r : List S24) (m : Nat) (hn : n < 16) (c1 : 0 ≤ Int.tmod (wrap64 ((n : Int) + step)) (ends6.length : Int)) (c2 : Int.tmod (wrap64 ((n : Int) + step)) (ends6.length : Int) < (ends6.length : Int)) (c3 : 0 ≤ Int.tmod (n : Int) 3) (c4 : Int.tmod (n : Int) 3 < (ends6.length : Int))
    (h1 : w15_row.f m (n : Int) step ops = some r)
    (h2 : w15_placed.f m [] r (q24 ends6 (Int.tmod (wrap64 ((n : Int) + step)) (ends6.length : Int))).f0 (q24 ends6 (Int.tmod (wrap64 ((n : Int) + step)) (ends6.length : Int))).f1 (q24 ends6 (Int.tmod (wrap64 ((n : Int) + step)) (ends6.length : Int))).f2 (q24 ends6 (Int.tmod (wrap64 ((n : Int) + step)) (ends6.length : Int))).f3 (q24 ends6 (Int.tmod (wrap64 ((n : Int) + step)) (ends6.length : Int))).f4 (q24 ends6 (Int.tmod (wrap64 ((n : Int) + step)) (ends6.length : Int))).f5 = some true)
    (h3 : w15_placed.f m [] r (q24 ends6 (Int.tmod (n : Int) 3)).f0 (q24 ends6 (Int.tmod (n : Int) 3)).f1 (q24 ends6 (Int.tmod (n : Int) 3)).f2 (q24 ends6 (Int.tmod (n : Int) 3)).f3 (q24 ends6 (Int.tmod (n : Int) 3)).f4 (q24 ends6 (Int.tmod (n : Int) 3)).f5 = some true)
    (h4 : w15_all.l0 m step ops ends6 ((n + 1 : Nat) : Int) = some true) : w15_all.l0 (m + 1) step ops ends6 (n : Int) = some true := by
  have hw : wrap64 ((n : Int) + 1) = ((n + 1 : Nat) : Int) := wrap_at (by omega)
  have hl : ¬ ((ends6.length : Int) = 0) := by decide
  have hn' : (n : Int) < 16 := by omega
  generalize ends6 = E at *
  rw [w15_all.l0, if_pos hn', h1, Option.bind_some, if_neg hl, if_pos c1, if_pos c2, h2, Option.bind_some, if_pos rfl, Option.bind_some, if_pos c3, if_pos c4, h3, Option.bind_some, if_pos rfl, hw, h4]
theorem all_from (step : Int) (ops : List Int) (h : okUp step ops 16 = true) : ∀ (d n : Nat), n + d = 16 → Ev (fun k => w15_all.l0 k step ops ends6 (n : Int)) true
  | 0, n, hn => by
    obtain ⟨K, hK⟩ := wakes_ev
    refine ⟨K + 1, fun k hk => ?_⟩
    obtain ⟨m, rfl⟩ : ∃ m, k = m + 1 := ⟨k - 1, by omega⟩
    have hw : w15_wakes.f m = some true := hK m (by omega)
    show w15_all.l0 (m + 1) step ops ends6 (n : Int) = some true
    rw [w15_all.l0, if_neg (by omega), hw, Option.bind_some]
  | d + 1, n, hn => by
    obtain ⟨K4, h4⟩ := all_from step ops h d (n + 1) (by omega)
    have ha := okUp_at step ops 16 n h (by omega)
    unfold okAt at ha
    cases hr : w15_row.f 200 (n : Int) step ops with
    | none => rw [hr] at ha; exact absurd ha (by simp)
    | some r =>
      rw [hr] at ha
      simp only [Bool.and_eq_true, decide_eq_true_eq] at ha
      obtain ⟨c1, c2, c3, c4, m1, m2⟩ := ha
      obtain ⟨K1, h1⟩ := Ev.of (w15_row.mono (n : Int) step ops) hr
      obtain ⟨K2, h2⟩ := placed_ev r _ m1
      obtain ⟨K3, h3⟩ := placed_ev r _ m2
      refine ⟨K1 + K2 + K3 + K4 + 1, fun k hk => ?_⟩
      obtain ⟨m, rfl⟩ : ∃ m, k = m + 1 := ⟨k - 1, by omega⟩
      exact all_round step ops n r m (by omega) c1 c2 c3 c4 (h1 m (by omega)) (h2 m (by omega)) (h3 m (by omega)) (h4 m (by omega))
theorem all_ev (step : Int) (ops : List Int) (h : okUp step ops 16 = true) : Ev (fun k => w15_all.f k step ops) true := all_from step ops h 16 0 (by omega)
theorem ok1 : okUp 15 [1, 14, 24, 20] 16 = true := by kernel_rfl
theorem ok2 : okUp 15 [16, 22] 16 = true := by kernel_rfl
theorem ok3 : okUp 3 [1, 2, 5] 16 = true := by kernel_rfl
theorem ok4 : okUp 5 [18, 21, 1] 16 = true := by kernel_rfl
theorem ok5 : okUp 3 [14, 20] 16 = true := by kernel_rfl
theorem ok6 : okUp 1 [24, 25, 26, 27] 16 = true := by kernel_rfl
theorem ok7 : okUp 2 [27, 16, 1] 16 = true := by kernel_rfl
theorem ok8 : okUp 0 [26, 27] 16 = true := by kernel_rfl
theorem lit_C (w : World) (xs : List Int) (hl : xs.length ≤ 1000) (cs : Array Value) (hcs : cs = (xs.map fun x => Value.int .i64 x).toArray) : Kd.C (Kd.int .i64) (w.alloc (.cells cs 3)) (some ⟨w.heap.size, 0, none⟩) xs.length xs := by
  have hb : (w.alloc (.cells cs 3)).heap[w.heap.size]? = some (.cells cs 3) := blk_new w _
  refine ⟨rfl, by omega, fun _ => ⟨⟨w.heap.size, 0, none⟩, rfl, fun j p hj => ⟨[.int .i64 p], rfl, rfl, fun i u hi => ?_⟩⟩⟩
  have hi0 : i = 0 := by
    cases i with
    | zero => rfl
    | succ i => simp at hi
  subst hi0
  obtain rfl : Value.int .i64 p = u := by simpa using hi
  have hc := bC_ hb j
  have ha : (Addr.add ⟨w.heap.size, 0, none⟩ (j * (Kd.int .i64).sz + 0)) = ⟨w.heap.size, j, none⟩ := by
    show Addr.add _ (j * 1 + 0) = _
    unfold Addr.add
    by_cases h0 : j = 0
    · subst h0; rfl
    · rw [if_neg (by omega)]; simp
  rw [ha, hc, hcs]
  simp [hj]
set_option maxHeartbeats 4000000 in
theorem chains15_walk : S15.LawWalk 8 := by
  intro A0 c0 lI x A1 c1 lN A2 c2 lS A3 c3 lU A4 c4 lB A5 c5 lC w g0 b0 g1 b1 g2 b2 g3 b3 g4 b4 g5 b5 hin
  obtain ⟨K0, h0⟩ := (all_ev 15 [1, 14, 24, 20] ok1).rounds
  have H0 : As_ (w15_all.f K0 15 [1, 14, 24, 20] = some true) := ⟨h0⟩
  clear h0
  obtain ⟨K1, h1⟩ := (all_ev 15 [16, 22] ok2).rounds
  have H1 : As_ (w15_all.f K1 15 [16, 22] = some true) := ⟨h1⟩
  clear h1
  have hu67 := Try.underlying67
  have q0 : ((0 : Int) ≤ (lC.length : Int)) = True := eq_true (Int.natCast_nonneg _)
  have q0b : decide ((0 : Int) ≤ (lC.length : Int)) = true := decide_eq_true (Int.natCast_nonneg _)
  clear g0 b0 g1 b1 g2 b2 g3 b3 g4 b4 g5 b5 hin
  go_enter Try.func8, Try.ntmps8
  go_wp2_with ((with_reducible refine gate_dst (N := 1) rfl ?_); refine bX_ (N := 1) (cs := #[.slice A0 lI.length c0, .int .i64 x.f0, .int .i64 x.f1, .int .i64 x.f2, .int .i64 x.f3, .int .i64 x.f4, .string x.f5, .slice A1 lN.length c1, .slice A2 lS.length c2, .slice A3 lU.length c3, .slice A4 lB.length c4, .slice A5 lC.length c5]) (t := 67) ?_; intro gb hgb w1 hbox hb; have x11 : w1.cell? ⟨gb, 11, none⟩ = some (.slice A5 lC.length c5) := (bC_ hbox 11).trans rfl; have HB0 := As_.mk hb; clear hbox hb hgb)
  have hcall0 := w15_all.calls K0 15 (some ⟨w1.heap.size, 0, none⟩) 4 [1, 14, 24, 20] true _ (lit_C w1 [1, 14, 24, 20] (by decide) #[Value.int .i64 1, Value.int .i64 14, Value.int .i64 24, Value.int .i64 20] rfl) (by decide) H0.out
  refine hcall0.mono ?_
  clear hcall0
  rintro e w2 ⟨rfl, hb⟩
  have HB1 := As_.mk ((bA_ HB0.out _).trans (hb.mono (bA_ HB0.out _).size))
  clear hb
  go_wp2_with fail
  have hcall1 := w15_all.calls K1 15 (some ⟨w2.heap.size, 0, none⟩) 2 [16, 22] true _ (lit_C w2 [16, 22] (by decide) #[Value.int .i64 16, Value.int .i64 22] rfl) (by decide) H1.out
  refine hcall1.mono ?_
  clear hcall1
  rintro e w3 ⟨rfl, hb⟩
  have HB2 := As_.mk ((bA_ HB1.out _).trans (hb.mono (bA_ HB1.out _).size))
  clear hb
  go_wp2
  go_ret
  exact ⟨rfl, HB2.out⟩
set_option maxHeartbeats 4000000 in
theorem slots_walk : S15.LawWalk 9 := by
  intro A0 c0 lI x A1 c1 lN A2 c2 lS A3 c3 lU A4 c4 lB A5 c5 lC w g0 b0 g1 b1 g2 b2 g3 b3 g4 b4 g5 b5 hin
  obtain ⟨K0, h0⟩ := (all_ev 3 [1, 2, 5] ok3).rounds
  have H0 : As_ (w15_all.f K0 3 [1, 2, 5] = some true) := ⟨h0⟩
  clear h0
  obtain ⟨K1, h1⟩ := (all_ev 5 [18, 21, 1] ok4).rounds
  have H1 : As_ (w15_all.f K1 5 [18, 21, 1] = some true) := ⟨h1⟩
  clear h1
  obtain ⟨K2, h2⟩ := (all_ev 3 [14, 20] ok5).rounds
  have H2 : As_ (w15_all.f K2 3 [14, 20] = some true) := ⟨h2⟩
  clear h2
  have hu67 := Try.underlying67
  have q0 : ((0 : Int) ≤ (lC.length : Int)) = True := eq_true (Int.natCast_nonneg _)
  have q0b : decide ((0 : Int) ≤ (lC.length : Int)) = true := decide_eq_true (Int.natCast_nonneg _)
  clear g0 b0 g1 b1 g2 b2 g3 b3 g4 b4 g5 b5 hin
  go_enter Try.func9, Try.ntmps9
  go_wp2_with ((with_reducible refine gate_dst (N := 1) rfl ?_); refine bX_ (N := 1) (cs := #[.slice A0 lI.length c0, .int .i64 x.f0, .int .i64 x.f1, .int .i64 x.f2, .int .i64 x.f3, .int .i64 x.f4, .string x.f5, .slice A1 lN.length c1, .slice A2 lS.length c2, .slice A3 lU.length c3, .slice A4 lB.length c4, .slice A5 lC.length c5]) (t := 67) ?_; intro gb hgb w1 hbox hb; have x11 : w1.cell? ⟨gb, 11, none⟩ = some (.slice A5 lC.length c5) := (bC_ hbox 11).trans rfl; have HB0 := As_.mk hb; clear hbox hb hgb)
  have hcall0 := w15_all.calls K0 3 (some ⟨w1.heap.size, 0, none⟩) 3 [1, 2, 5] true _ (lit_C w1 [1, 2, 5] (by decide) #[Value.int .i64 1, Value.int .i64 2, Value.int .i64 5] rfl) (by decide) H0.out
  refine hcall0.mono ?_
  clear hcall0
  rintro e w2 ⟨rfl, hb⟩
  have HB1 := As_.mk ((bA_ HB0.out _).trans (hb.mono (bA_ HB0.out _).size))
  clear hb
  go_wp2_with fail
  have hcall1 := w15_all.calls K1 5 (some ⟨w2.heap.size, 0, none⟩) 3 [18, 21, 1] true _ (lit_C w2 [18, 21, 1] (by decide) #[Value.int .i64 18, Value.int .i64 21, Value.int .i64 1] rfl) (by decide) H1.out
  refine hcall1.mono ?_
  clear hcall1
  rintro e w3 ⟨rfl, hb⟩
  have HB2 := As_.mk ((bA_ HB1.out _).trans (hb.mono (bA_ HB1.out _).size))
  clear hb
  go_wp2_with fail
  have hcall2 := w15_all.calls K2 3 (some ⟨w3.heap.size, 0, none⟩) 2 [14, 20] true _ (lit_C w3 [14, 20] (by decide) #[Value.int .i64 14, Value.int .i64 20] rfl) (by decide) H2.out
  refine hcall2.mono ?_
  clear hcall2
  rintro e w4 ⟨rfl, hb⟩
  have HB3 := As_.mk ((bA_ HB2.out _).trans (hb.mono (bA_ HB2.out _).size))
  clear hb
  go_wp2
  go_ret
  exact ⟨rfl, HB3.out⟩
set_option maxHeartbeats 4000000 in
theorem effects_walk : S15.LawWalk 10 := by
  intro A0 c0 lI x A1 c1 lN A2 c2 lS A3 c3 lU A4 c4 lB A5 c5 lC w g0 b0 g1 b1 g2 b2 g3 b3 g4 b4 g5 b5 hin
  obtain ⟨K0, h0⟩ := (all_ev 1 [24, 25, 26, 27] ok6).rounds
  have H0 : As_ (w15_all.f K0 1 [24, 25, 26, 27] = some true) := ⟨h0⟩
  clear h0
  obtain ⟨K1, h1⟩ := (all_ev 2 [27, 16, 1] ok7).rounds
  have H1 : As_ (w15_all.f K1 2 [27, 16, 1] = some true) := ⟨h1⟩
  clear h1
  obtain ⟨K2, h2⟩ := (all_ev 0 [26, 27] ok8).rounds
  have H2 : As_ (w15_all.f K2 0 [26, 27] = some true) := ⟨h2⟩
  clear h2
  have hu67 := Try.underlying67
  have q0 : ((0 : Int) ≤ (lC.length : Int)) = True := eq_true (Int.natCast_nonneg _)
  have q0b : decide ((0 : Int) ≤ (lC.length : Int)) = true := decide_eq_true (Int.natCast_nonneg _)
  clear g0 b0 g1 b1 g2 b2 g3 b3 g4 b4 g5 b5 hin
  go_enter Try.func10, Try.ntmps10
  go_wp2_with ((with_reducible refine gate_dst (N := 1) rfl ?_); refine bX_ (N := 1) (cs := #[.slice A0 lI.length c0, .int .i64 x.f0, .int .i64 x.f1, .int .i64 x.f2, .int .i64 x.f3, .int .i64 x.f4, .string x.f5, .slice A1 lN.length c1, .slice A2 lS.length c2, .slice A3 lU.length c3, .slice A4 lB.length c4, .slice A5 lC.length c5]) (t := 67) ?_; intro gb hgb w1 hbox hb; have x11 : w1.cell? ⟨gb, 11, none⟩ = some (.slice A5 lC.length c5) := (bC_ hbox 11).trans rfl; have HB0 := As_.mk hb; clear hbox hb hgb)
  have hcall0 := w15_all.calls K0 1 (some ⟨w1.heap.size, 0, none⟩) 4 [24, 25, 26, 27] true _ (lit_C w1 [24, 25, 26, 27] (by decide) #[Value.int .i64 24, Value.int .i64 25, Value.int .i64 26, Value.int .i64 27] rfl) (by decide) H0.out
  refine hcall0.mono ?_
  clear hcall0
  rintro e w2 ⟨rfl, hb⟩
  have HB1 := As_.mk ((bA_ HB0.out _).trans (hb.mono (bA_ HB0.out _).size))
  clear hb
  go_wp2_with fail
  have hcall1 := w15_all.calls K1 2 (some ⟨w2.heap.size, 0, none⟩) 3 [27, 16, 1] true _ (lit_C w2 [27, 16, 1] (by decide) #[Value.int .i64 27, Value.int .i64 16, Value.int .i64 1] rfl) (by decide) H1.out
  refine hcall1.mono ?_
  clear hcall1
  rintro e w3 ⟨rfl, hb⟩
  have HB2 := As_.mk ((bA_ HB1.out _).trans (hb.mono (bA_ HB1.out _).size))
  clear hb
  go_wp2_with fail
  have hcall2 := w15_all.calls K2 0 (some ⟨w3.heap.size, 0, none⟩) 2 [26, 27] true _ (lit_C w3 [26, 27] (by decide) #[Value.int .i64 26, Value.int .i64 27] rfl) (by decide) H2.out
  refine hcall2.mono ?_
  clear hcall2
  rintro e w4 ⟨rfl, hb⟩
  have HB3 := As_.mk ((bA_ HB2.out _).trans (hb.mono (bA_ HB2.out _).size))
  clear hb
  go_wp2
  go_ret
  exact ⟨rfl, HB3.out⟩
end Go.Proofs.Ytibfkkjkahpobaa.PDag
end
