import Derived.Test.YtibfkkjkahpobaaMx15
import Derived.Test.YtibfkkjkahpobaaMx16
import Derived.Test.YtibfkkjkahpobaaMx22
import Derived.Test.YtibfkkjkahpobaaMx23
set_option linter.unusedVariables false
set_option linter.unusedSimpArgs false
set_option maxHeartbeats 8000000
set_option maxRecDepth 100000
namespace Go.Proofs.Ytibfkkjkahpobaa.PDag
open Go.RowKit Go.Proofs.YtibfkkjkahpobaaW.PrintWords Go.Proofs.YtibfkkjkahpobaaW.PrintLast Go.Proofs.YtibfkkjkahpobaaW.PrintMore
attribute [local go_sem] max2_int min2_int max_two min_two max_three min_three max_four min_four
mutual
def r3_Slots.j0 : Nat → Int → Bool → Option (List Int)
  | 0, _, _ => none
  | k + 1, x0, x7 => if x7 = true then (some (([1] : List Int))) else ((r0_Between.f x0 14 17).bind fun t597 => (if t597 = true then (r3_Slots.j1 k x0 true) else (r3_Slots.j1 k x0 (x0 == 20))))
def r3_Slots.j1 : Nat → Int → Bool → Option (List Int)
  | 0, _, _ => none
  | k + 1, x0, x19 => if x19 = true then (some (([3] : List Int))) else ((r0_Between.f x0 24 27).bind fun t601 => (if t601 = true then (some (([2] : List Int))) else ((r3_Ends.f x0).bind fun t605 => (if t605 = true then (some (([0] : List Int))) else (some (([0, 1] : List Int)))))))
end
def r3_Slots.f (k : Nat) (a0 : Int) : Option (List Int) := if a0 = 0 then (some (([0, 1, 2, 3] : List Int))) else (if a0 = 18 then (r3_Slots.j0 k a0 true) else (if a0 = 19 then (r3_Slots.j0 k a0 true) else (r3_Slots.j0 k a0 (a0 == 21))))
theorem r3_Slots.mono_l : ∀ k, (∀ y0 y1, LeO (r3_Slots.j0 k y0 y1) (r3_Slots.j0 (k + 1) y0 y1)) ∧ (∀ y0 y1, LeO (r3_Slots.j1 k y0 y1) (r3_Slots.j1 (k + 1) y0 y1))
  | 0 => ⟨fun _ _ r h => by simp [r3_Slots.j0] at h, fun _ _ r h => by simp [r3_Slots.j1] at h⟩
  | k + 1 => by
    obtain ⟨ih0, ih1⟩ := r3_Slots.mono_l k
    refine ⟨?_, ?_⟩
    · intro y0 y1
      unfold r3_Slots.j0
      repeat' first
      | (with_reducible exact ih0 _ _)
      | (with_reducible exact ih1 _ _)
      | (with_reducible exact LeO.refl _)
      | (with_reducible exact LeO.none _)
      | (with_reducible refine LeO.ite ?_ ?_)
      | (with_reducible refine LeO.bind ?_ (fun _ => ?_))
      | exact LeO.none _
      | refine LeO.ite ?_ ?_
      | refine LeO.bind ?_ (fun _ => ?_)
    · intro y0 y1
      unfold r3_Slots.j1
      repeat' first
      | (with_reducible exact ih0 _ _)
      | (with_reducible exact ih1 _ _)
      | (with_reducible exact LeO.refl _)
      | (with_reducible exact LeO.none _)
      | (with_reducible refine LeO.ite ?_ ?_)
      | (with_reducible refine LeO.bind ?_ (fun _ => ?_))
      | exact LeO.none _
      | refine LeO.ite ?_ ?_
      | refine LeO.bind ?_ (fun _ => ?_)
theorem r3_Slots.mono : ∀ a0 k, LeO (r3_Slots.f k a0) (r3_Slots.f (k + 1) a0) := by
 intro a0 k
 obtain ⟨ih0, ih1⟩ := r3_Slots.mono_l k
 unfold r3_Slots.f
 repeat' first
  | (with_reducible exact ih0 _ _)
  | (with_reducible exact ih1 _ _)
  | (with_reducible exact LeO.refl _)
  | (with_reducible exact LeO.none _)
  | (with_reducible refine LeO.ite ?_ ?_)
  | (with_reducible refine LeO.bind ?_ (fun _ => ?_))
  | exact LeO.none _
  | refine LeO.ite ?_ ?_
  | refine LeO.bind ?_ (fun _ => ?_)
theorem r3_Slots.calls (k : Nat) (a0 : Int) (r : List Int) (w : World) (h : r3_Slots.f k a0 = some r) :
    Calls Try.prog 122 #[.int .i64 a0] w fun e w' => ∃ v0_ : Value, e = .returned (v0_) ∧ Kd.R (Kd.int .i64) 3 w' w.heap.size (fun _ => True) v0_ r ∧ Below w.heap.size w w' := by
 have HB := aM_ (Below.refl w.heap.size w)
 have H : (if a0 = 0 then (some (([0, 1, 2, 3] : List Int))) else (if a0 = 18 then (r3_Slots.j0 k a0 true) else (if a0 = 19 then (r3_Slots.j0 k a0 true) else (r3_Slots.j0 k a0 (a0 == 21))))) = some r := h
 clear h
 by_cases c2 : a0 = 0
 ·rw [if_pos c2] at H
  have c2b0 := bH_ c2
  have c2b1 := bF_ c2
  clear c2
  obtain ⟨y591, hy591⟩ : ∃ y_ : List Int, y_ = (([0, 1, 2, 3] : List Int)) := ⟨_, rfl⟩
  replace H : (some y591) = some r := by first | (rw [hy591]; with_reducible exact H) | (have H2_ := (Option.bind_some _ _).symm.trans H; rw [hy591]; with_reducible exact H2_) | (have H2_ := (Option.bind_some _ _).symm.trans H; with_reducible exact H2_) | with_reducible exact H | (rw [hy591]; exact H) | exact H
  have Ny591 := aM_ hy591
  clear hy591
  obtain rfl := oI_ H
  go_enter Try.func122, Try.ntmps122
  go_wp2_with (first | ((with_reducible refine gate_dst (N := 6) rfl ?_); refine Kd.R_lit (Kd.int .i64) _ 3 ?hg (N := 6) ?hd (xs := ([0, 1, 2, 3] : List Int)) (inner := [.int .i64 0, .int .i64 1, .int .i64 2, .int .i64 3]) (ok := fun _ => True) (okp := fun _ => True) ?hr ?hp (fun _ hk => hk) trivial (Below.refl _ _) (Nat.le_refl _) (by simp) ?_; (case hd => rfl); (case hg => rfl); (case hr => first | (go_simp; done) | (go_simp; rfl)); (case hp => exact (Reps.one (show Kd.M (Kd.int .i64) _ _ _ 0 [.int .i64 0] from rfl) (Reps.one (show Kd.M (Kd.int .i64) _ _ _ 1 [.int .i64 1] from rfl) (Reps.one (show Kd.M (Kd.int .i64) _ _ _ 2 [.int .i64 2] from rfl) (Reps.one (show Kd.M (Kd.int .i64) _ _ _ 3 [.int .i64 3] from rfl) (Reps.none _ _)))))); intro v592 w3 ho4 hb hg_ hnew_; clear hg_ hnew_; (first | rw [← Ny591.out] at ho4 | (simp only [Int.reduceToNat] at ho4; rw [← Ny591.out] at ho4)); replace HO593 := aM_ (Kd.R_lower ho4 (bY_ (bl_ HB))); replace HB := aM_ (bT_ (bl_ HB) hb); clear hb ho4))
  go_ret
  exact ⟨_, eR_, rR_ HO593, bl_ HB⟩
 rw [if_neg c2] at H
 have c2b0 := bE_ c2
 have c2b1 := bG_ c2
 have HC5 := aM_ H
 clear H
 go_enter Try.func122, Try.ntmps122
 go_upto_region 3 with (fail)
 go_cut [7] (fun v7 wc => ∃ (kq : Nat) (x7_4 : Bool), v7 = .bool x7_4 ∧ As_ (r3_Slots.j0 kq a0 x7_4 = some r) ∧ As_ (kq ≤ k) ∧ As_ (Below w.heap.size w wc))
 case first =>
  have H := HC5.out
  clear HC5
  by_cases c6 : a0 = 18
  ·rw [if_pos c6] at H
   have c6b0 := bH_ c6
   have c6b1 := bF_ c6
   clear c6
   (first | rw [c6b0] | (simp only [i64_w, i32_w]; rw [c6b0]) | skip)
   replace H := aM_ H
   go_wp2
   go_meet
   case rel => exact ⟨_, (true), eQ_, H, ⟨by first | omega | exact Nat.le_refl _⟩, ⟨bl_ HB⟩⟩
  rw [if_neg c6] at H
  have c6b0 := bE_ c6
  have c6b1 := bG_ c6
  (first | rw [c6b0] | (simp only [i64_w, i32_w]; rw [c6b0]) | skip)
  by_cases c7 : a0 = 19
  ·rw [if_pos c7] at H
   have c7b0 := bH_ c7
   have c7b1 := bF_ c7
   clear c7
   replace H := aM_ H
   go_wp2
   go_meet
   case rel => exact ⟨_, (true), eQ_, H, ⟨by first | omega | exact Nat.le_refl _⟩, ⟨bl_ HB⟩⟩
  rw [if_neg c7] at H
  have c7b0 := bE_ c7
  have c7b1 := bG_ c7
  replace H := aM_ H
  go_wp2
  go_meet
  case rel => exact ⟨_, ((a0 == 21)), eQ_, H, ⟨by first | omega | exact Nat.le_refl _⟩, ⟨bl_ HB⟩⟩
 case rest =>
  clear HC5
  obtain ⟨kq, x7_4, rfl, HA, HJ4, HB⟩ := hcut
  cases kq with
  | zero => exact absurd HA.out (by simp [r3_Slots.j0])
  | succ kj4 =>
   have H := HA.out
   clear HA
   simp only [r3_Slots.j0] at H
   by_cases c8 : x7_4 = true
   ·subst c8
    rw [if_pos rfl] at H
    obtain ⟨y594, hy594⟩ : ∃ y_ : List Int, y_ = (([1] : List Int)) := ⟨_, rfl⟩
    replace H : (some y594) = some r := by first | (rw [hy594]; with_reducible exact H) | (have H2_ := (Option.bind_some _ _).symm.trans H; rw [hy594]; with_reducible exact H2_) | (have H2_ := (Option.bind_some _ _).symm.trans H; with_reducible exact H2_) | with_reducible exact H | (rw [hy594]; exact H) | exact H
    have Ny594 := aM_ hy594
    clear hy594
    obtain rfl := oI_ H
    go_wp2_with (first | ((with_reducible refine gate_dst (N := 18) rfl ?_); refine Kd.R_lit (Kd.int .i64) _ 3 ?hg (N := 18) ?hd (xs := ([1] : List Int)) (inner := [.int .i64 1]) (ok := fun _ => True) (okp := fun _ => True) ?hr ?hp (fun _ hk => hk) trivial (Below.refl _ _) (Nat.le_refl _) (by simp) ?_; (case hd => rfl); (case hg => rfl); (case hr => first | (go_simp; done) | (go_simp; rfl)); (case hp => exact (Reps.one (show Kd.M (Kd.int .i64) _ _ _ 1 [.int .i64 1] from rfl) (Reps.none _ _))); intro v595 w9 ho10 hb hg_ hnew_; clear hg_ hnew_; (first | rw [← Ny594.out] at ho10 | (simp only [Int.reduceToNat] at ho10; rw [← Ny594.out] at ho10)); replace HO596 := aM_ (Kd.R_lower ho10 (bY_ (bl_ HB))); replace HB := aM_ (bT_ (bl_ HB) hb); clear hb ho10))
    go_ret
    exact ⟨_, eR_, rR_ HO596, bl_ HB⟩
   replace c8 := eF_ c8
   subst c8
   rw [if_neg Bool.false_ne_true] at H
   have HC11 := aM_ H
   clear H
   go_upto_region 5 with (fail)
   go_cut [19] (fun v19 wc => ∃ (kq : Nat) (x19_10 : Bool), v19 = .bool x19_10 ∧ As_ (r3_Slots.j1 kq a0 x19_10 = some r) ∧ As_ (kq ≤ kj4) ∧ As_ (Below w.heap.size w wc))
   case first =>
    have H := HC11.out
    clear HC11
    replace H := oB_ H
    obtain ⟨t597, A12, H⟩ := H
    by_cases c13 : t597 = true
    ·subst c13
     rw [if_pos rfl] at H
     replace H := aM_ H
     go_wp2_with (first | ((with_reducible refine gC_ (f := 54) rfl ?_); refine gL_ (some 21) Try.func54 #[.int .i64 a0, .int .i64 14, .int .i64 17] rfl ?_; (with_reducible refine (r0_Between.calls a0 14 17 true _ A12.out).mono ?_); rintro e w' ⟨rfl, ⟨nd, rfl⟩⟩; refine ⟨_, rfl, ?_⟩))
     go_meet
     case rel => exact ⟨_, (true), eQ_, H, ⟨by have := HJ4.out; first | omega | exact Nat.le_refl _⟩, ⟨bl_ HB⟩⟩
    replace c13 := eF_ c13
    subst c13
    rw [if_neg Bool.false_ne_true] at H
    replace H := aM_ H
    go_wp2_with (first | ((with_reducible refine gC_ (f := 54) rfl ?_); refine gL_ (some 21) Try.func54 #[.int .i64 a0, .int .i64 14, .int .i64 17] rfl ?_; (with_reducible refine (r0_Between.calls a0 14 17 false _ A12.out).mono ?_); rintro e w' ⟨rfl, ⟨nd, rfl⟩⟩; refine ⟨_, rfl, ?_⟩))
    go_meet
    case rel => exact ⟨_, ((a0 == 20)), eQ_, H, ⟨by have := HJ4.out; first | omega | exact Nat.le_refl _⟩, ⟨bl_ HB⟩⟩
   case rest =>
    clear HC11
    obtain ⟨kq, x19_10, rfl, HA, HJ10, HB⟩ := hcut
    cases kq with
    | zero => exact absurd HA.out (by simp [r3_Slots.j1])
    | succ kj10 =>
     have H := HA.out
     clear HA
     simp only [r3_Slots.j1] at H
     by_cases c14 : x19_10 = true
     ·subst c14
      rw [if_pos rfl] at H
      obtain ⟨y598, hy598⟩ : ∃ y_ : List Int, y_ = (([3] : List Int)) := ⟨_, rfl⟩
      replace H : (some y598) = some r := by first | (rw [hy598]; with_reducible exact H) | (have H2_ := (Option.bind_some _ _).symm.trans H; rw [hy598]; with_reducible exact H2_) | (have H2_ := (Option.bind_some _ _).symm.trans H; with_reducible exact H2_) | with_reducible exact H | (rw [hy598]; exact H) | exact H
      have Ny598 := aM_ hy598
      clear hy598
      obtain rfl := oI_ H
      go_wp2_with (first | ((with_reducible refine gate_dst (N := 26) rfl ?_); refine Kd.R_lit (Kd.int .i64) _ 3 ?hg (N := 26) ?hd (xs := ([3] : List Int)) (inner := [.int .i64 3]) (ok := fun _ => True) (okp := fun _ => True) ?hr ?hp (fun _ hk => hk) trivial (Below.refl _ _) (Nat.le_refl _) (by simp) ?_; (case hd => rfl); (case hg => rfl); (case hr => first | (go_simp; done) | (go_simp; rfl)); (case hp => exact (Reps.one (show Kd.M (Kd.int .i64) _ _ _ 3 [.int .i64 3] from rfl) (Reps.none _ _))); intro v599 w15 ho16 hb hg_ hnew_; clear hg_ hnew_; (first | rw [← Ny598.out] at ho16 | (simp only [Int.reduceToNat] at ho16; rw [← Ny598.out] at ho16)); replace HO600 := aM_ (Kd.R_lower ho16 (bY_ (bl_ HB))); replace HB := aM_ (bT_ (bl_ HB) hb); clear hb ho16))
      go_ret
      exact ⟨_, eR_, rR_ HO600, bl_ HB⟩
     replace c14 := eF_ c14
     subst c14
     rw [if_neg Bool.false_ne_true] at H
     replace H := oB_ H
     obtain ⟨t601, A17, H⟩ := H
     by_cases c18 : t601 = true
     ·subst c18
      rw [if_pos rfl] at H
      obtain ⟨y602, hy602⟩ : ∃ y_ : List Int, y_ = (([2] : List Int)) := ⟨_, rfl⟩
      replace H : (some y602) = some r := by first | (rw [hy602]; with_reducible exact H) | (have H2_ := (Option.bind_some _ _).symm.trans H; rw [hy602]; with_reducible exact H2_) | (have H2_ := (Option.bind_some _ _).symm.trans H; with_reducible exact H2_) | with_reducible exact H | (rw [hy602]; exact H) | exact H
      have Ny602 := aM_ hy602
      clear hy602
      obtain rfl := oI_ H
      go_wp2_with (first | ((with_reducible refine gC_ (f := 54) rfl ?_); refine gL_ (some 29) Try.func54 #[.int .i64 a0, .int .i64 24, .int .i64 27] rfl ?_; (with_reducible refine (r0_Between.calls a0 24 27 true _ A17.out).mono ?_); rintro e w' ⟨rfl, ⟨nd, rfl⟩⟩; refine ⟨_, rfl, ?_⟩) | ((with_reducible refine gate_dst (N := 30) rfl ?_); refine Kd.R_lit (Kd.int .i64) _ 3 ?hg (N := 30) ?hd (xs := ([2] : List Int)) (inner := [.int .i64 2]) (ok := fun _ => True) (okp := fun _ => True) ?hr ?hp (fun _ hk => hk) trivial (Below.refl _ _) (Nat.le_refl _) (by simp) ?_; (case hd => rfl); (case hg => rfl); (case hr => first | (go_simp; done) | (go_simp; rfl)); (case hp => exact (Reps.one (show Kd.M (Kd.int .i64) _ _ _ 2 [.int .i64 2] from rfl) (Reps.none _ _))); intro v603 w19 ho20 hb hg_ hnew_; clear hg_ hnew_; (first | rw [← Ny602.out] at ho20 | (simp only [Int.reduceToNat] at ho20; rw [← Ny602.out] at ho20)); replace HO604 := aM_ (Kd.R_lower ho20 (bY_ (bl_ HB))); replace HB := aM_ (bT_ (bl_ HB) hb); clear hb ho20))
      go_ret
      exact ⟨_, eR_, rR_ HO604, bl_ HB⟩
     replace c18 := eF_ c18
     subst c18
     rw [if_neg Bool.false_ne_true] at H
     replace H := oB_ H
     obtain ⟨t605, A21, H⟩ := H
     by_cases c22 : t605 = true
     ·subst c22
      rw [if_pos rfl] at H
      obtain ⟨y606, hy606⟩ : ∃ y_ : List Int, y_ = (([0] : List Int)) := ⟨_, rfl⟩
      replace H : (some y606) = some r := by first | (rw [hy606]; with_reducible exact H) | (have H2_ := (Option.bind_some _ _).symm.trans H; rw [hy606]; with_reducible exact H2_) | (have H2_ := (Option.bind_some _ _).symm.trans H; with_reducible exact H2_) | with_reducible exact H | (rw [hy606]; exact H) | exact H
      have Ny606 := aM_ hy606
      clear hy606
      obtain rfl := oI_ H
      go_wp2_with (first | ((with_reducible refine gC_ (f := 54) rfl ?_); refine gL_ (some 29) Try.func54 #[.int .i64 a0, .int .i64 24, .int .i64 27] rfl ?_; (with_reducible refine (r0_Between.calls a0 24 27 false _ A17.out).mono ?_); rintro e w' ⟨rfl, ⟨nd, rfl⟩⟩; refine ⟨_, rfl, ?_⟩) | ((with_reducible refine gC_ (f := 40) rfl ?_); refine gL_ (some 33) Try.func40 #[.int .i64 a0] rfl ?_; (with_reducible refine (r3_Ends.calls a0 true _ A21.out).mono ?_); rintro e w' ⟨rfl, ⟨nd, rfl⟩⟩; refine ⟨_, rfl, ?_⟩) | ((with_reducible refine gate_dst (N := 34) rfl ?_); refine Kd.R_lit (Kd.int .i64) _ 3 ?hg (N := 34) ?hd (xs := ([0] : List Int)) (inner := [.int .i64 0]) (ok := fun _ => True) (okp := fun _ => True) ?hr ?hp (fun _ hk => hk) trivial (Below.refl _ _) (Nat.le_refl _) (by simp) ?_; (case hd => rfl); (case hg => rfl); (case hr => first | (go_simp; done) | (go_simp; rfl)); (case hp => exact (Reps.one (show Kd.M (Kd.int .i64) _ _ _ 0 [.int .i64 0] from rfl) (Reps.none _ _))); intro v607 w23 ho24 hb hg_ hnew_; clear hg_ hnew_; (first | rw [← Ny606.out] at ho24 | (simp only [Int.reduceToNat] at ho24; rw [← Ny606.out] at ho24)); replace HO608 := aM_ (Kd.R_lower ho24 (bY_ (bl_ HB))); replace HB := aM_ (bT_ (bl_ HB) hb); clear hb ho24))
      go_ret
      exact ⟨_, eR_, rR_ HO608, bl_ HB⟩
     replace c22 := eF_ c22
     subst c22
     rw [if_neg Bool.false_ne_true] at H
     obtain ⟨y609, hy609⟩ : ∃ y_ : List Int, y_ = (([0, 1] : List Int)) := ⟨_, rfl⟩
     replace H : (some y609) = some r := by first | (rw [hy609]; with_reducible exact H) | (have H2_ := (Option.bind_some _ _).symm.trans H; rw [hy609]; with_reducible exact H2_) | (have H2_ := (Option.bind_some _ _).symm.trans H; with_reducible exact H2_) | with_reducible exact H | (rw [hy609]; exact H) | exact H
     have Ny609 := aM_ hy609
     clear hy609
     obtain rfl := oI_ H
     go_wp2_with (first | ((with_reducible refine gC_ (f := 54) rfl ?_); refine gL_ (some 29) Try.func54 #[.int .i64 a0, .int .i64 24, .int .i64 27] rfl ?_; (with_reducible refine (r0_Between.calls a0 24 27 false _ A17.out).mono ?_); rintro e w' ⟨rfl, ⟨nd, rfl⟩⟩; refine ⟨_, rfl, ?_⟩) | ((with_reducible refine gC_ (f := 40) rfl ?_); refine gL_ (some 33) Try.func40 #[.int .i64 a0] rfl ?_; (with_reducible refine (r3_Ends.calls a0 false _ A21.out).mono ?_); rintro e w' ⟨rfl, ⟨nd, rfl⟩⟩; refine ⟨_, rfl, ?_⟩) | ((with_reducible refine gate_dst (N := 35) rfl ?_); refine Kd.R_lit (Kd.int .i64) _ 3 ?hg (N := 35) ?hd (xs := ([0, 1] : List Int)) (inner := [.int .i64 0, .int .i64 1]) (ok := fun _ => True) (okp := fun _ => True) ?hr ?hp (fun _ hk => hk) trivial (Below.refl _ _) (Nat.le_refl _) (by simp) ?_; (case hd => rfl); (case hg => rfl); (case hr => first | (go_simp; done) | (go_simp; rfl)); (case hp => exact (Reps.one (show Kd.M (Kd.int .i64) _ _ _ 0 [.int .i64 0] from rfl) (Reps.one (show Kd.M (Kd.int .i64) _ _ _ 1 [.int .i64 1] from rfl) (Reps.none _ _)))); intro v610 w25 ho26 hb hg_ hnew_; clear hg_ hnew_; (first | rw [← Ny609.out] at ho26 | (simp only [Int.reduceToNat] at ho26; rw [← Ny609.out] at ho26)); replace HO611 := aM_ (Kd.R_lower ho26 (bY_ (bl_ HB))); replace HB := aM_ (bT_ (bl_ HB) hb); clear hb ho26))
     go_ret
     exact ⟨_, eR_, rR_ HO611, bl_ HB⟩
def r3_May.f (k : Nat) (a0 : Int) (a1 : Int) : Option (Bool) := (r3_Valid.f a0).bind fun t612 => (if t612 = true then ((r3_Slots.f k a0).bind fun t613 => ((r0_In.f k t613 a1).bind fun t616 => (some (decide (t616 ≥ 0))))) else (some false))
theorem r3_May.mono : ∀ a0 a1 k, LeO (r3_May.f k a0 a1) (r3_May.f (k + 1) a0 a1) := by
 intro a0 a1 k
 unfold r3_May.f
 repeat' first
  | (with_reducible exact r0_In.mono _ _ _)
  | (with_reducible exact r3_Slots.mono _ _)
  | (with_reducible exact LeO.refl _)
  | (with_reducible exact LeO.none _)
  | (with_reducible refine LeO.ite ?_ ?_)
  | (with_reducible refine LeO.bind ?_ (fun _ => ?_))
  | exact LeO.none _
  | refine LeO.ite ?_ ?_
  | refine LeO.bind ?_ (fun _ => ?_)
theorem r3_May.calls (k : Nat) (a0 : Int) (a1 : Int) (r : Bool) (w : World) (h : r3_May.f k a0 a1 = some r) :
    Calls Try.prog 104 #[.int .i64 a0, .int .i64 a1] w fun e w' => e = .returned (.bool r) ∧ Below w.heap.size w w' := by
 have HB := aM_ (Below.refl w.heap.size w)
 have H : ((r3_Valid.f a0).bind fun t612 => (if t612 = true then ((r3_Slots.f k a0).bind fun t613 => ((r0_In.f k t613 a1).bind fun t616 => (some (decide (t616 ≥ 0))))) else (some false))) = some r := h
 clear h
 replace H := oB_ H
 obtain ⟨t612, A3, H⟩ := H
 by_cases c4 : t612 = true
 ·subst c4
  rw [if_pos rfl] at H
  replace H := oB_ H
  obtain ⟨t613, A5, H⟩ := H
  replace H := oB_ H
  obtain ⟨t616, A6, H⟩ := H
  obtain rfl := oI_ H
  go_enter Try.func104, Try.ntmps104
  go_wp2_with (first | ((with_reducible refine gC_ (f := 66) rfl ?_); refine gL_ (some 6) Try.func66 #[.int .i64 a0] rfl ?_; (with_reducible refine (r3_Valid.calls a0 true _ A3.out).mono ?_); rintro e w' ⟨rfl, ⟨nd, rfl⟩⟩; refine ⟨_, rfl, ?_⟩) | (go_at_call 122; (with_reducible refine (r3_Slots.calls k a0 t613 _ A5.out).mono ?_); rintro e w7 ⟨v614, rfl, ho0, hb⟩; replace HO615 := aM_ (Kd.R_lower ho0 (bY_ (bl_ HB))); replace HB := aM_ (bT_ (bl_ HB) hb); (try clear ho0); obtain ⟨Ao8, co8, eo8⟩ := Kd.R_slice HO615.out; subst eo8) | (go_at_call 72; (with_reducible refine (r0_In.calls k _ _ t613 a1 t616 _ ?side1 ?side2 A6.out).mono ?_); (case side1 => exact rC_ (Kd.R_reads' HO615.out).2.2); (case side2 => exact (Kd.R_reads' HO615.out).2.1); rintro e w' ⟨rfl, ⟨nd, rfl⟩⟩))
  go_ret
  exact ⟨eR_, bl_ HB⟩
 replace c4 := eF_ c4
 subst c4
 rw [if_neg Bool.false_ne_true] at H
 obtain rfl := oI_ H
 go_enter Try.func104, Try.ntmps104
 go_wp2_with (first | ((with_reducible refine gC_ (f := 66) rfl ?_); refine gL_ (some 6) Try.func66 #[.int .i64 a0] rfl ?_; (with_reducible refine (r3_Valid.calls a0 false _ A3.out).mono ?_); rintro e w' ⟨rfl, ⟨nd, rfl⟩⟩; refine ⟨_, rfl, ?_⟩))
 go_ret
 exact ⟨eR_, bl_ HB⟩
mutual
def r13_ready.l0 : Nat → List (S51) → List Int → Int → Int → Int → Option (Bool)
  | 0, _, _, _, _, _ => none
  | k + 1, x0, x1, x2, x3, x9 => if x9 < (x0.length : Int) then (if 0 ≤ x9 then (if ((q51 x0 x9).f1) = x2 then (if 0 ≤ ((q51 x0 x9).f0) then (if ((q51 x0 x9).f0) < (x1.length : Int) then (if (rd x1 ((q51 x0 x9).f0)) < 0 then (r13_ready.j1 k x0 x1 x2 x3 x9 true) else (r13_ready.j1 k x0 x1 x2 x3 x9 (decide ((wrap64 ((rd x1 ((q51 x0 x9).f0)) + ((q51 x0 x9).f2))) > x3)))) else (none)) else (none)) else (r13_ready.j1 k x0 x1 x2 x3 x9 false)) else (none)) else (some true)
def r13_ready.j1 : Nat → List (S51) → List Int → Int → Int → Int → Bool → Option (Bool)
  | 0, _, _, _, _, _, _ => none
  | k + 1, x0, x1, x2, x3, x9, x51 => if x51 = true then (some false) else (r13_ready.l0 k x0 x1 x2 x3 (wrap64 (x9 + 1)))
end
def r13_ready.f (k : Nat) (l0 : List (S51)) (l1 : List Int) (a2 : Int) (a3 : Int) : Option (Bool) := r13_ready.l0 k l0 l1 a2 a3 0
theorem r13_ready.calls (k : Nat) (A0 : Option Addr) (c0 : Nat) (l0 : List (S51)) (A1 : Option Addr) (c1 : Nat) (l1 : List Int) (a2 : Int) (a3 : Int) (r : Bool) (w : World) (hr0 : Kd.C k51 w A0 l0.length l0) (hc0 : l0.length ≤ c0) (hr1 : Kd.C (Kd.int .i64) w A1 l1.length l1) (hc1 : l1.length ≤ c1) (h : r13_ready.f k l0 l1 a2 a3 = some r) :
    Calls Try.prog 105 #[.slice A0 l0.length c0, .slice A1 l1.length c1, .int .i64 a2, .int .i64 a3] w fun e w' => e = .returned (.bool r) ∧ Dr_ w w' := by
 have HR0 := aM_ hr0
 have HC0 := aM_ hc0
 clear hr0 hc0
 have HR1 := aM_ hr1
 have HC1 := aM_ hc1
 clear hr1 hc1
 have H : (r13_ready.l0 k l0 l1 a2 a3 0) = some r := h
 clear h
 replace H := aM_ H
 go_enter Try.func105, Try.ntmps105
 go_wp2
 repeat (go_quiet (fail); try go_wp2)
 go_loopg [9] k (fun kq v9 w' => ∃ (x9_1 : Int), v9 = .int .i64 x9_1 ∧ As_ (r13_ready.l0 kq l0 l1 a2 a3 x9_1 = some r) ∧ As_ (kq ≤ k) ∧ Dr_ w w')
 case atStart => exact ⟨(0), eQ_, H, ⟨Nat.le_refl _⟩, dR_⟩
 case round =>
  clear H
  obtain ⟨x9_1, rfl, HA, HK1, ⟨m1, rfl⟩⟩ := hrel
  cases gk with
  | zero => exact absurd HA.out (by simp [r13_ready.l0])
  | succ k1 =>
   have H := HA.out
   clear HA
   simp only [r13_ready.l0] at H
   by_cases c5 : x9_1 < (l0.length : Int)
   ·rw [if_pos c5] at H
    have c5b0 := dE_ c5
    clear c5
    have HC6 := aM_ H
    clear H
    go_upto_region 4 with (fail)
    repeat (go_quiet (fail); go_upto_region 4 with (fail))
    go_cut [51] (fun v51 wc => ∃ (kq : Nat) (x51_5 : Bool), v51 = .bool x51_5 ∧ As_ (r13_ready.j1 kq l0 l1 a2 a3 x9_1 x51_5 = some r) ∧ As_ (kq ≤ k1) ∧ Dr_ w wc)
    case first =>
     have H := HC6.out
     clear HC6
     by_cases c7 : 0 ≤ x9_1
     ·rw [if_pos c7] at H
      have c7b0 := dE_ c7
      clear c7
      (first | rw [c7b0] | (simp only [i64_w, i32_w]; rw [c7b0]) | skip)
      by_cases c8 : ((q51 l0 x9_1).f1) = a2
      ·rw [if_pos c8] at H
       have c8b0 := bH_ c8
       have c8b1 := bF_ c8
       clear c8
       by_cases c9 : 0 ≤ ((q51 l0 x9_1).f0)
       ·rw [if_pos c9] at H
        have c9b0 := dE_ c9
        clear c9
        by_cases c10 : ((q51 l0 x9_1).f0) < (l1.length : Int)
        ·rw [if_pos c10] at H
         have c10b0 := dE_ c10
         clear c10
         by_cases c11 : (rd l1 ((q51 l0 x9_1).f0)) < 0
         ·rw [if_pos c11] at H
          have c11b0 := dE_ c11
          clear c11
          replace H := aM_ H
          have p617 : 0 ≤ (x9_1 : Int) := oD_
          have q617 : x9_1 < (l0.length : Int) := oD_
          obtain ⟨ad617, e617, hx617_0, hx617_1, hx617_2⟩ := at_T51 HR0.out x9_1 p617 q617
          cases e617
          replace p617 := eq_true p617
          replace q617 := eq_true q617
          have p618 : 0 ≤ (x9_1 : Int) := oD_
          have q618 : x9_1 < (l0.length : Int) := oD_
          obtain ⟨ad618, e618, hx618_0, hx618_1, hx618_2⟩ := at_T51 HR0.out x9_1 p618 q618
          obtain rfl : ad617 = ad618 := (by injection e618)
          replace p618 := eq_true p618
          replace q618 := eq_true q618
          have p619 : 0 ≤ (((q51 l0 x9_1).f0) : Int) := oD_
          have q619 : ((q51 l0 x9_1).f0) < (l1.length : Int) := oD_
          obtain ⟨ad619, e619, hx619_0⟩ := Kd.at_int HR1.out ((q51 l0 x9_1).f0) p619 q619
          cases e619
          replace p619 := eq_true p619
          replace q619 := eq_true q619
          go_wp2
          repeat (go_quiet (fail); try go_wp2)
          go_meet
          case rel => exact ⟨_, (true), eQ_, H, ⟨by have := HK1.out; first | omega | exact Nat.le_refl _⟩, dR_⟩
         rw [if_neg c11] at H
         have c11b0 := dF_ c11
         clear c11
         replace H := aM_ H
         have p617 : 0 ≤ (x9_1 : Int) := oD_
         have q617 : x9_1 < (l0.length : Int) := oD_
         obtain ⟨ad617, e617, hx617_0, hx617_1, hx617_2⟩ := at_T51 HR0.out x9_1 p617 q617
         cases e617
         replace p617 := eq_true p617
         replace q617 := eq_true q617
         have p618 : 0 ≤ (x9_1 : Int) := oD_
         have q618 : x9_1 < (l0.length : Int) := oD_
         obtain ⟨ad618, e618, hx618_0, hx618_1, hx618_2⟩ := at_T51 HR0.out x9_1 p618 q618
         obtain rfl : ad617 = ad618 := (by injection e618)
         replace p618 := eq_true p618
         replace q618 := eq_true q618
         have p619 : 0 ≤ (((q51 l0 x9_1).f0) : Int) := oD_
         have q619 : ((q51 l0 x9_1).f0) < (l1.length : Int) := oD_
         obtain ⟨ad619, e619, hx619_0⟩ := Kd.at_int HR1.out ((q51 l0 x9_1).f0) p619 q619
         cases e619
         replace p619 := eq_true p619
         replace q619 := eq_true q619
         have p620 : 0 ≤ (x9_1 : Int) := oD_
         have q620 : x9_1 < (l0.length : Int) := oD_
         obtain ⟨ad620, e620, hx620_0, hx620_1, hx620_2⟩ := at_T51 HR0.out x9_1 p620 q620
         obtain rfl : ad617 = ad620 := (by injection e620)
         replace p620 := eq_true p620
         replace q620 := eq_true q620
         have p621 : 0 ≤ (((q51 l0 x9_1).f0) : Int) := oD_
         have q621 : ((q51 l0 x9_1).f0) < (l1.length : Int) := oD_
         obtain ⟨ad621, e621, hx621_0⟩ := Kd.at_int HR1.out ((q51 l0 x9_1).f0) p621 q621
         obtain rfl : ad619 = ad621 := (by injection e621)
         replace p621 := eq_true p621
         replace q621 := eq_true q621
         have p622 : 0 ≤ (x9_1 : Int) := oD_
         have q622 : x9_1 < (l0.length : Int) := oD_
         obtain ⟨ad622, e622, hx622_0, hx622_1, hx622_2⟩ := at_T51 HR0.out x9_1 p622 q622
         obtain rfl : ad617 = ad622 := (by injection e622)
         replace p622 := eq_true p622
         replace q622 := eq_true q622
         go_wp2
         repeat (go_quiet (fail); try go_wp2)
         go_meet
         case rel => exact ⟨_, (decide ((wrap64 ((rd l1 ((q51 l0 x9_1).f0)) + ((q51 l0 x9_1).f2))) > a3)), eQ_, H, ⟨by have := HK1.out; first | omega | exact Nat.le_refl _⟩, dR_⟩
        rw [if_neg c10] at H
        exact absurd H (by simp)
       rw [if_neg c9] at H
       exact absurd H (by simp)
      rw [if_neg c8] at H
      have c8b0 := bE_ c8
      have c8b1 := bG_ c8
      replace H := aM_ H
      have p617 : 0 ≤ (x9_1 : Int) := oD_
      have q617 : x9_1 < (l0.length : Int) := oD_
      obtain ⟨ad617, e617, hx617_0, hx617_1, hx617_2⟩ := at_T51 HR0.out x9_1 p617 q617
      cases e617
      replace p617 := eq_true p617
      replace q617 := eq_true q617
      go_wp2
      repeat (go_quiet (fail); try go_wp2)
      go_meet
      case rel => exact ⟨_, (false), eQ_, H, ⟨by have := HK1.out; first | omega | exact Nat.le_refl _⟩, dR_⟩
     rw [if_neg c7] at H
     exact absurd H (by simp)
    case rest =>
     clear HC6
     obtain ⟨kq, x51_5, rfl, HA, HJ5, ⟨mc5, rfl⟩⟩ := hcut
     cases kq with
     | zero => exact absurd HA.out (by simp [r13_ready.j1])
     | succ kj5 =>
      have H := HA.out
      clear HA
      simp only [r13_ready.j1] at H
      by_cases c12 : x51_5 = true
      ·subst c12
       rw [if_pos rfl] at H
       obtain rfl := oI_ H
       go_wp2
       repeat (go_quiet (fail); try go_wp2)
       go_ret
       exact ⟨eQ_, dR_⟩
      replace c12 := eF_ c12
      subst c12
      rw [if_neg Bool.false_ne_true] at H
      replace H := aM_ H
      go_wp2
      repeat (go_quiet (fail); try go_wp2)
      go_roundg kj5
      case measure => have := HK1.out; have := HJ5.out; omega
      case rel => exact ⟨(wrap64 (x9_1 + 1)), eQ_, H, ⟨by have := HK1.out; have := HJ5.out; omega⟩, dR_⟩
   rw [if_neg c5] at H
   have c5b0 := dF_ c5
   clear c5
   obtain rfl := oI_ H
   go_wp2
   repeat (go_quiet (fail); try go_wp2)
   go_ret
   exact ⟨eQ_, dR_⟩
end Go.Proofs.Ytibfkkjkahpobaa.PDag
